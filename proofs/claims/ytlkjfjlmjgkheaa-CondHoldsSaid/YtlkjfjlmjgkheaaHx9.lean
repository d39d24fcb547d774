import Derived.Test.YtlkjfjlmjgkheaaHx0
import Derived.Test.YtlkjfjlmjgkheaaHx6
import Derived.Test.YtlkjfjlmjgkheaaHx7
namespace Go.Proofs.Ytlkjfjlmjgkheaa.H
open Go.RowKit Go.Proofs.YtlkjfjlmjgkheaaW.PrintWords Go.Proofs.YtlkjfjlmjgkheaaW.PrintLast Go.Proofs.YtlkjfjlmjgkheaaW.PrintMore
attribute [local go_sem] max2_int min2_int max_two min_two max_three min_three max_four min_four
set_option linter.unusedVariables false
set_option linter.unusedSimpArgs false
set_option maxHeartbeats 2000000 in
set_option maxRecDepth 100000 in
theorem idxf_87 {p : S61 → Bool} {g : Nat} {lb : Array Value} (eg : ∀ args w, (callFunc g args).run Try.prog w = .ok (.enter g args) w) {A : Option Addr} {c : Nat} {xs : List S61} {w : World} (hr : Kd.C k61 w A xs.length xs)
 (hp : PredK Try.prog g lb k61 aggV p w xs) :
 Calls Try.prog 87 #[.slice A xs.length c, .func (.func g) #[] lb] w fun e w' => e = .returned (.int .i64 (idxP p xs 0)) ∧ Below w.heap.size w w' := by
 have hbig := hr.2.1
 have hu61 := Try.underlying61
 have HR := aM hr
 have HP := aM hp
 clear hr hp
 go_enter Try.func87, Try.ntmps87
 go_wp2
 go_loopg [5, 8] xs.length (fun gg _ s8 wr => ∃ kk : Nat, kk ≤ xs.length ∧ xs.length - kk ≤ gg ∧ s8 = .int .i64 kk ∧ Aside0 (Below w.heap.size w wr) ∧ Aside0 (idxP p xs 0 = idxP p (xs.drop kk) kk))
 case atStart => exact ⟨0, Nat.zero_le _, by omega, rfl, ⟨Below.refl _ w⟩, ⟨rfl⟩⟩
 case round =>
  obtain ⟨kk, hkk, hg, rfl, BW, HA⟩ := hrel
  by_cases hlt : kk < xs.length
  · have hltz : (kk : Int) < (xs.length : Int) := by omega
    have hd : xs.drop kk = (rd_T61 xs kk) :: xs.drop (kk + 1) := by
     rw [List.drop_eq_getElem_cons hlt]
     congr 1
     simp [rd_T61, List.getD_eq_getElem?_getD, List.getElem?_eq_getElem hlt]
    obtain ⟨ad, A2, c2, A3, c3, e, hx0, hx1, hx2, hx3, l2, g2, l3, g3⟩ := at_T61 HR.out (kk : Int) (by omega) (by omega)
    subst e
    simp only [Int.toNat_natCast] at hx0 hx1 hx2 hx3
    have hcall := HP.out (rd_T61 xs kk) (by simp [rd_T61, List.getD_eq_getElem?_getD, List.getElem?_eq_getElem hlt]) wr _ BW.out (k61.K_below BW.out (k61_mk w (rd_T61 xs kk) l2 g2 l3 g3))
    unfold aggV at hcall
    replace hx0 := (BW.out.cell (World.block_lt_of_cell? w _ hx0)).trans hx0
    replace hx1 := (BW.out.cell (World.block_lt_of_cell? w _ hx1)).trans hx1
    replace hx2 := (BW.out.cell (World.block_lt_of_cell? w _ hx2)).trans hx2
    replace hx3 := (BW.out.cell (World.block_lt_of_cell? w _ hx3)).trans hx3
    cases hq : p (rd_T61 xs kk) with
    | true =>
     rw [hq] at hcall
     go_wp2_with ((with_reducible refine hcall.mono ?_); rintro e w' ⟨rfl, hb'⟩)
     go_ret
     refine ⟨?_, hb'⟩
     rw [HA.out, hd, idxP, if_pos hq]
     rfl
    | false =>
     rw [hq] at hcall
     go_wp2_with ((with_reducible refine hcall.mono ?_); rintro e w' ⟨rfl, hb'⟩)
     go_roundg (xs.length - (kk + 1))
     case measure => omega
     case rel => exact ⟨kk + 1, by omega, by omega, by go_num, ⟨hb'⟩, ⟨by rw [HA.out, hd, idxP, if_neg (by simp [hq])]⟩⟩
  · have hltz : ¬ (kk : Int) < (xs.length : Int) := by omega
    have : kk = xs.length := by omega
    subst this
    go_wp2
    go_ret
    refine ⟨?_, BW.out⟩
    rw [HA.out, List.drop_length]
    rfl
set_option maxHeartbeats 2000000 in
set_option maxRecDepth 100000 in
theorem conf_56 {p : S61 → Bool} {g : Nat} {lb : Array Value} (eg : ∀ args w, (callFunc g args).run Try.prog w = .ok (.enter g args) w) {A : Option Addr} {c : Nat} {xs : List S61} {w : World} (hr : Kd.C k61 w A xs.length xs)
 (hp : PredK Try.prog g lb k61 aggV p w xs) :
 Calls Try.prog 56 #[.slice A xs.length c, .func (.func g) #[] lb] w fun e w' => e = .returned (.bool (xs.any p)) ∧ Below w.heap.size w w' := by
 have H := idxf_87 eg (c := c) hr hp
 rw [← idxP_lt p xs 0]
 generalize idxP p xs 0 = r at H ⊢
 clear hr hp
 have hH := aM H
 clear H
 go_enter Try.func56, Try.ntmps56
 go_wp2_with ((with_reducible refine hH.out.mono ?_); rintro e w' ⟨rfl, hb'⟩)
 go_ret
 exact ⟨rfl, hb'⟩
set_option maxHeartbeats 2000000 in
set_option maxRecDepth 100000 in
theorem idxf_88 {p : S64 → Bool} {g : Nat} {lb : Array Value} (eg : ∀ args w, (callFunc g args).run Try.prog w = .ok (.enter g args) w) {A : Option Addr} {c : Nat} {xs : List S64} {w : World} (hr : Kd.C k64 w A xs.length xs)
 (hp : PredK Try.prog g lb k64 aggV p w xs) :
 Calls Try.prog 88 #[.slice A xs.length c, .func (.func g) #[] lb] w fun e w' => e = .returned (.int .i64 (idxP p xs 0)) ∧ Below w.heap.size w w' := by
 have hbig := hr.2.1
 have hu64 := Try.underlying64
 have HR := aM hr
 have HP := aM hp
 clear hr hp
 go_enter Try.func88, Try.ntmps88
 go_wp2
 go_loopg [5, 8] xs.length (fun gg _ s8 wr => ∃ kk : Nat, kk ≤ xs.length ∧ xs.length - kk ≤ gg ∧ s8 = .int .i64 kk ∧ Aside0 (Below w.heap.size w wr) ∧ Aside0 (idxP p xs 0 = idxP p (xs.drop kk) kk))
 case atStart => exact ⟨0, Nat.zero_le _, by omega, rfl, ⟨Below.refl _ w⟩, ⟨rfl⟩⟩
 case round =>
  obtain ⟨kk, hkk, hg, rfl, BW, HA⟩ := hrel
  by_cases hlt : kk < xs.length
  · have hltz : (kk : Int) < (xs.length : Int) := by omega
    have hd : xs.drop kk = (rd_T64 xs kk) :: xs.drop (kk + 1) := by
     rw [List.drop_eq_getElem_cons hlt]
     congr 1
     simp [rd_T64, List.getD_eq_getElem?_getD, List.getElem?_eq_getElem hlt]
    obtain ⟨ad, A1, c1, e, hx0, hx1, l1, g1⟩ := at_T64 HR.out (kk : Int) (by omega) (by omega)
    subst e
    simp only [Int.toNat_natCast] at hx0 hx1
    have hcall := HP.out (rd_T64 xs kk) (by simp [rd_T64, List.getD_eq_getElem?_getD, List.getElem?_eq_getElem hlt]) wr _ BW.out (k64.K_below BW.out (k64_mk w (rd_T64 xs kk) l1 g1))
    unfold aggV at hcall
    replace hx0 := (BW.out.cell (World.block_lt_of_cell? w _ hx0)).trans hx0
    replace hx1 := (BW.out.cell (World.block_lt_of_cell? w _ hx1)).trans hx1
    cases hq : p (rd_T64 xs kk) with
    | true =>
     rw [hq] at hcall
     go_wp2_with ((with_reducible refine hcall.mono ?_); rintro e w' ⟨rfl, hb'⟩)
     go_ret
     refine ⟨?_, hb'⟩
     rw [HA.out, hd, idxP, if_pos hq]
     rfl
    | false =>
     rw [hq] at hcall
     go_wp2_with ((with_reducible refine hcall.mono ?_); rintro e w' ⟨rfl, hb'⟩)
     go_roundg (xs.length - (kk + 1))
     case measure => omega
     case rel => exact ⟨kk + 1, by omega, by omega, by go_num, ⟨hb'⟩, ⟨by rw [HA.out, hd, idxP, if_neg (by simp [hq])]⟩⟩
  · have hltz : ¬ (kk : Int) < (xs.length : Int) := by omega
    have : kk = xs.length := by omega
    subst this
    go_wp2
    go_ret
    refine ⟨?_, BW.out⟩
    rw [HA.out, List.drop_length]
    rfl
set_option maxHeartbeats 2000000 in
set_option maxRecDepth 100000 in
theorem conf_58 {p : S64 → Bool} {g : Nat} {lb : Array Value} (eg : ∀ args w, (callFunc g args).run Try.prog w = .ok (.enter g args) w) {A : Option Addr} {c : Nat} {xs : List S64} {w : World} (hr : Kd.C k64 w A xs.length xs)
 (hp : PredK Try.prog g lb k64 aggV p w xs) :
 Calls Try.prog 58 #[.slice A xs.length c, .func (.func g) #[] lb] w fun e w' => e = .returned (.bool (xs.any p)) ∧ Below w.heap.size w w' := by
 have H := idxf_88 eg (c := c) hr hp
 rw [← idxP_lt p xs 0]
 generalize idxP p xs 0 = r at H ⊢
 clear hr hp
 have hH := aM H
 clear H
 go_enter Try.func58, Try.ntmps58
 go_wp2_with ((with_reducible refine hH.out.mono ?_); rintro e w' ⟨rfl, hb'⟩)
 go_ret
 exact ⟨rfl, hb'⟩
def pfxR (x : S83) : Option Bool := pfx_Right.f x.f1.f0.f0 x.f1.f0.f1 x.f1.f1 x.f1.f2
def patR (k : Nat) (x : S61) : Option Bool := pat_Right.f k x.f1.f0 x.f1.f1 x.f1.f2
set_option maxHeartbeats 2000000 in
set_option maxRecDepth 100000 in
theorem cond_Right_1 (x : S83) (r : Bool) (h : pfxR x = some r) (W : World) (cs : List Value) (hk : k83.K W x cs) :
 Calls Try.prog 54 (#[aggV cs] ++ #[]) W fun e w' => e = .returned (.bool (!r)) ∧ Below W.heap.size W w' := by
 obtain rfl := k83_open hk
 have hu1 := Try.underlying83
 have hu2 := Try.underlying81
 have H := aM (pfx_Right.calls x.f1.f0.f0 x.f1.f0.f1 x.f1.f1 x.f1.f2 r (W.alloc (.cells #[.bool x.f0, .int .u32 x.f1.f0.f0, .int .i64 x.f1.f0.f1, .int .i64 x.f1.f1, .int .i64 x.f1.f2] 83)) h)
 clear h hk
 unfold aggV
 show Calls Try.prog 54 #[.agg #[.bool x.f0, .int .u32 x.f1.f0.f0, .int .i64 x.f1.f0.f1, .int .i64 x.f1.f1, .int .i64 x.f1.f2]] W _
 go_enter Try.func54, Try.ntmps54
 go_wp2_with ((with_reducible refine H.out.mono ?_); rintro e w' ⟨rfl, hb'⟩)
 go_ret
 exact ⟨rfl, below_step (below_alloc (Below.refl _ _) _) hb'⟩
set_option maxHeartbeats 2000000 in
set_option maxRecDepth 100000 in
theorem cond_Right_2 (k : Nat) (x : S61) (r : Bool) (h : patR k x = some r) (W : World) (cs : List Value) (hk : k61.K W x cs) :
 Calls Try.prog 57 (#[aggV cs] ++ #[]) W fun e w' => e = .returned (.bool (!r)) ∧ Below W.heap.size W w' := by
 obtain ⟨A2, c2, A3, c3, rfl, l2, g2, l3, g3⟩ := k61_open hk
 have hu1 := Try.underlying61
 have hu2 := Try.underlying25
 have H := aM (pat_Right.calls k x.f1.f0 A2 c2 x.f1.f1 A3 c3 x.f1.f2 r (W.alloc (.cells #[.bool x.f0, .int .i64 x.f1.f0, .slice A2 x.f1.f1.length c2, .slice A3 x.f1.f2.length c3] 61)) (Kd.C_below g2 (below_alloc (Below.refl _ _) _)) l2 (Kd.C_below g3 (below_alloc (Below.refl _ _) _)) l3 h)
 clear h hk g2 g3
 unfold aggV
 show Calls Try.prog 57 #[.agg #[.bool x.f0, .int .i64 x.f1.f0, .slice A2 x.f1.f1.length c2, .slice A3 x.f1.f2.length c3]] W _
 go_enter Try.func57, Try.ntmps57
 go_wp2_with ((with_reducible refine H.out.mono ?_); rintro e w' ⟨rfl, hb'⟩)
 go_ret
 exact ⟨rfl, below_step (below_alloc (Below.refl _ _) _) hb'⟩
set_option maxHeartbeats 2000000 in
set_option maxRecDepth 100000 in
theorem cond_Right_3 (x : S64) (W : World) (cs : List Value) (hk : k64.K W x cs) :
 Calls Try.prog 59 (#[aggV cs] ++ #[]) W fun e w' => e = .returned (.bool (decide ((x.f1.length : Int) > 64))) ∧ Below W.heap.size W w' := by
 obtain ⟨A2, c2, rfl, l2, g2⟩ := k64_open hk
 have hu1 := Try.underlying64
 clear hk g2
 unfold aggV
 show Calls Try.prog 59 #[.agg #[.bool x.f0, .slice A2 x.f1.length c2]] W _
 go_enter Try.func59, Try.ntmps59
 go_wp2
 go_ret
 exact ⟨rfl, below_alloc (Below.refl _ _) _⟩
def cond_Right.f (k : Nat) (a0_0 : Int) (l0_1 : List S83) (l0_2 : List S61) (l0_3 : List S64) (a0_4 a0_5 : Int) : Option Bool :=
 if a0_0 = 1 ∨ a0_0 = 7 then (if (l0_1.length : Int) ≤ 64 then (if allS pfxR l0_1 = true then some (!(l0_1.any fun x => !((pfxR x).getD false))) else none) else some false)
 else if a0_0 = 2 then (if (l0_2.length : Int) ≤ 64 then (if allS (patR k) l0_2 = true then some (!(l0_2.any fun x => !((patR k x).getD false))) else none) else some false)
 else if a0_0 = 3 then (if (l0_3.length : Int) ≤ 64 then some (!(l0_3.any fun x => decide ((x.f1.length : Int) > 64))) else some false)
 else if a0_0 = 4 ∨ a0_0 = 5 ∨ a0_0 = 6 then some true else some false
theorem cond_Right.mono : ∀ a0 a1 a2 a3 a4 a5 k, LeO (cond_Right.f k a0 a1 a2 a3 a4 a5) (cond_Right.f (k + 1) a0 a1 a2 a3 a4 a5) := by
 intro a0 l1 l2 l3 a4 a5 k
 unfold cond_Right.f
 refine LeO.ite (LeO.refl _) (LeO.ite (LeO.ite ?_ (LeO.refl _)) (LeO.refl _))
 intro r h
 by_cases ha : allS (patR k) l2 = true
 · rw [if_pos ha] at h
   have up : ∀ x ∈ l2, patR (k + 1) x = some ((patR k x).getD false) := fun x hx => pat_Right.mono _ _ _ k _ (allS_get ha hx)
   have ha2 : allS (patR (k + 1)) l2 = true := List.all_eq_true.2 (fun x hx => by rw [up x hx]; rfl)
   rw [if_pos ha2, ← h]
   have : (l2.any fun x => !((patR (k + 1) x).getD false)) = (l2.any fun x => !((patR k x).getD false)) := by
    rw [Bool.eq_iff_iff, List.any_eq_true, List.any_eq_true]
    constructor
    · rintro ⟨x, hx, q⟩; exact ⟨x, hx, by rw [up x hx] at q; exact q⟩
    · rintro ⟨x, hx, q⟩; exact ⟨x, hx, by rw [up x hx]; exact q⟩
   rw [this]
 · rw [if_neg ha] at h; cases h
set_option maxHeartbeats 8000000 in
set_option maxRecDepth 100000 in
theorem cond_Right.calls (k : Nat) (a0_0 : Int) (A0_1 : Option Addr) (c0_1 : Nat) (l0_1 : List S83) (A0_2 : Option Addr) (c0_2 : Nat) (l0_2 : List S61) (A0_3 : Option Addr) (c0_3 : Nat) (l0_3 : List S64) (a0_4 a0_5 : Int) (r : Bool) (w : World) (hr0_1 : Kd.C k83 w A0_1 l0_1.length l0_1) (hc0_1 : l0_1.length ≤ c0_1) (hr0_2 : Kd.C k61 w A0_2 l0_2.length l0_2) (hc0_2 : l0_2.length ≤ c0_2) (hr0_3 : Kd.C k64 w A0_3 l0_3.length l0_3) (hc0_3 : l0_3.length ≤ c0_3) (h : cond_Right.f k a0_0 l0_1 l0_2 l0_3 a0_4 a0_5 = some r) :
 Calls Try.prog 32 #[.agg #[.int .i64 a0_0, .slice A0_1 l0_1.length c0_1, .slice A0_2 l0_2.length c0_2, .slice A0_3 l0_3.length c0_3, .int .u32 a0_4, .int .u32 a0_5]] w fun e w' => e = .returned (.bool r) ∧ Below w.heap.size w w' := by
 have hu46 := Try.underlying46
 have hB : Below w.heap.size w (w.alloc (.cells #[.int .i64 a0_0, .slice A0_1 l0_1.length c0_1, .slice A0_2 l0_2.length c0_2, .slice A0_3 l0_3.length c0_3, .int .u32 a0_4, .int .u32 a0_5] 46)) := below_alloc (Below.refl _ _) _
 unfold cond_Right.f at h
 by_cases k1 : a0_0 = 1 ∨ a0_0 = 7
 · rw [if_pos k1] at h
   by_cases b1 : (l0_1.length : Int) ≤ 64
   · rw [if_pos b1] at h
     by_cases ha : allS pfxR l0_1 = true
     · rw [if_pos ha] at h
       have h := Option.some.inj h
       have hp : PredK Try.prog 54 #[] k83 aggV (fun x => !((pfxR x).getD false)) (w.alloc (.cells #[.int .i64 a0_0, .slice A0_1 l0_1.length c0_1, .slice A0_2 l0_2.length c0_2, .slice A0_3 l0_3.length c0_3, .int .u32 a0_4, .int .u32 a0_5] 46)) l0_1 := by
        intro x hx W cs hb hk
        refine (cond_Right_1 x _ (allS_get ha hx) W cs hk).mono ?_
        rintro e w' ⟨he, hb'⟩
        exact ⟨he, below_then hb hb.size hb'⟩
       have H := aM (conf_53 (fun args w => enters_ Try.func54 (by kernel_rfl) rfl args w) (c := c0_1) (Kd.C_below hr0_1 hB) hp)
       clear hp hr0_1 hr0_2 hr0_3 ha
       generalize (l0_1.any fun x => !((pfxR x).getD false)) = i at H h
       subst h
       have e1 : decide ((l0_1.length : Int) ≤ 64) = true := decide_eq_true b1
       rcases k1 with rfl | rfl
       all_goals
        go_enter Try.func32, Try.ntmps32
        go_wp2_with ((with_reducible refine H.out.mono ?_); rintro e w' ⟨rfl, hb'⟩)
        go_ret
        exact ⟨rfl, below_step (below_alloc (Below.refl _ _) _) hb'⟩
     · rw [if_neg ha] at h; cases h
   · rw [if_neg b1] at h
     obtain rfl := Option.some.inj h
     have e1 : decide ((l0_1.length : Int) ≤ 64) = false := decide_eq_false b1
     clear hr0_1 hr0_2 hr0_3 h hB
     rcases k1 with rfl | rfl
     all_goals
      go_enter Try.func32, Try.ntmps32
      go_wp2
      go_ret
      exact ⟨rfl, below_alloc (Below.refl _ _) _⟩
 · rw [if_neg k1] at h
   by_cases k2 : a0_0 = 2
   · subst k2
     rw [if_pos rfl] at h
     by_cases b1 : (l0_2.length : Int) ≤ 64
     · rw [if_pos b1] at h
       by_cases ha : allS (patR k) l0_2 = true
       · rw [if_pos ha] at h
         have h := Option.some.inj h
         have hp : PredK Try.prog 57 #[] k61 aggV (fun x => !((patR k x).getD false)) (w.alloc (.cells #[.int .i64 2, .slice A0_1 l0_1.length c0_1, .slice A0_2 l0_2.length c0_2, .slice A0_3 l0_3.length c0_3, .int .u32 a0_4, .int .u32 a0_5] 46)) l0_2 := by
          intro x hx W cs hb hk
          refine (cond_Right_2 k x _ (allS_get ha hx) W cs hk).mono ?_
          rintro e w' ⟨he, hb'⟩
          exact ⟨he, below_then hb hb.size hb'⟩
         have H := aM (conf_56 (fun args w => enters_ Try.func57 (by kernel_rfl) rfl args w) (c := c0_2) (Kd.C_below hr0_2 hB) hp)
         clear hp hr0_1 hr0_2 hr0_3 ha k1 hB
         generalize (l0_2.any fun x => !((patR k x).getD false)) = i at H h
         subst h
         have e1 : decide ((l0_2.length : Int) ≤ 64) = true := decide_eq_true b1
         go_enter Try.func32, Try.ntmps32
         go_wp2_with ((with_reducible refine H.out.mono ?_); rintro e w' ⟨rfl, hb'⟩)
         go_ret
         exact ⟨rfl, below_step (below_alloc (Below.refl _ _) _) hb'⟩
       · rw [if_neg ha] at h; cases h
     · rw [if_neg b1] at h
       obtain rfl := Option.some.inj h
       have e1 : decide ((l0_2.length : Int) ≤ 64) = false := decide_eq_false b1
       clear hr0_1 hr0_2 hr0_3 h hB k1
       go_enter Try.func32, Try.ntmps32
       go_wp2
       go_ret
       exact ⟨rfl, below_alloc (Below.refl _ _) _⟩
   · rw [if_neg k2] at h
     by_cases k3 : a0_0 = 3
     · subst k3
       rw [if_pos rfl] at h
       by_cases b1 : (l0_3.length : Int) ≤ 64
       · rw [if_pos b1] at h
         have h := Option.some.inj h
         have hp : PredK Try.prog 59 #[] k64 aggV (fun x => decide ((x.f1.length : Int) > 64)) (w.alloc (.cells #[.int .i64 3, .slice A0_1 l0_1.length c0_1, .slice A0_2 l0_2.length c0_2, .slice A0_3 l0_3.length c0_3, .int .u32 a0_4, .int .u32 a0_5] 46)) l0_3 := by
          intro x hx W cs hb hk
          refine (cond_Right_3 x W cs hk).mono ?_
          rintro e w' ⟨he, hb'⟩
          exact ⟨he, below_then hb hb.size hb'⟩
         have H := aM (conf_58 (fun args w => enters_ Try.func59 (by kernel_rfl) rfl args w) (c := c0_3) (Kd.C_below hr0_3 hB) hp)
         clear hp hr0_1 hr0_2 hr0_3 k1 k2 hB
         generalize (l0_3.any fun x => decide ((x.f1.length : Int) > 64)) = i at H h
         subst h
         have e1 : decide ((l0_3.length : Int) ≤ 64) = true := decide_eq_true b1
         go_enter Try.func32, Try.ntmps32
         go_wp2_with ((with_reducible refine H.out.mono ?_); rintro e w' ⟨rfl, hb'⟩)
         go_ret
         exact ⟨rfl, below_step (below_alloc (Below.refl _ _) _) hb'⟩
       · rw [if_neg b1] at h
         obtain rfl := Option.some.inj h
         have e1 : decide ((l0_3.length : Int) ≤ 64) = false := decide_eq_false b1
         clear hr0_1 hr0_2 hr0_3 h hB k1 k2
         go_enter Try.func32, Try.ntmps32
         go_wp2
         go_ret
         exact ⟨rfl, below_alloc (Below.refl _ _) _⟩
     · rw [if_neg k3] at h
       clear hr0_1 hr0_2 hr0_3 hB
       by_cases k4 : a0_0 = 4 ∨ a0_0 = 5 ∨ a0_0 = 6
       · rw [if_pos k4] at h
         obtain rfl := Option.some.inj h
         clear h k1 k2 k3
         rcases k4 with rfl | rfl | rfl
         all_goals
          go_enter Try.func32, Try.ntmps32
          go_wp2
          go_ret
          exact ⟨rfl, below_alloc (Below.refl _ _) _⟩
       · rw [if_neg k4] at h
         obtain rfl := Option.some.inj h
         have n1 : (a0_0 == 1) = false := beq_eq_false_iff_ne.mpr (by omega)
         have n2 : (a0_0 == 2) = false := beq_eq_false_iff_ne.mpr (by omega)
         have n3 : (a0_0 == 3) = false := beq_eq_false_iff_ne.mpr (by omega)
         have n4 : (a0_0 == 4) = false := beq_eq_false_iff_ne.mpr (by omega)
         have n5 : (a0_0 == 5) = false := beq_eq_false_iff_ne.mpr (by omega)
         have n6 : (a0_0 == 6) = false := beq_eq_false_iff_ne.mpr (by omega)
         have n7 : (a0_0 == 7) = false := beq_eq_false_iff_ne.mpr (by omega)
         clear h k1 k2 k3 k4
         go_enter Try.func32, Try.ntmps32
         go_wp2
         go_ret
         exact ⟨rfl, below_alloc (Below.refl _ _) _⟩
def IsS71 (w0 W : World) (g : Nat) (f0 : Int) (f1 : Int) (f2 : Int) (f3 : Int) : Prop := W.heap[g]? = some (.cells #[.int .u64 f0, .int .u64 f1, .int .u64 f2, .int .u64 f3] 71 (0, 0)) ∧ w0.heap.size ≤ g
def pat_places_put.f (x0 x1 x2 x3 i : Int) : Option (Int × Int × Int × Int) := if 0 ≤ i then (if i < 64 then some (Go.bits .or .u64 x0 (IntKind.u64.wrap (2 ^ (i % 64).toNat)), x1, x2, x3) else if i < 128 then some (x0, Go.bits .or .u64 x1 (IntKind.u64.wrap (2 ^ (i % 64).toNat)), x2, x3) else if i < 192 then some (x0, x1, Go.bits .or .u64 x2 (IntKind.u64.wrap (2 ^ (i % 64).toNat)), x3) else if i < 256 then some (x0, x1, x2, Go.bits .or .u64 x3 (IntKind.u64.wrap (2 ^ (i % 64).toNat))) else none) else none
set_option maxHeartbeats 2000000 in
set_option maxRecDepth 100000 in
theorem pat_places_put.calls (g : Nat) (s0_0 : Int) (s0_1 : Int) (s0_2 : Int) (s0_3 : Int) (a1 : Int) (r1 r2 r3 r4 : Int) (w0 w : World) (hI : IsS71 w0 w g s0_0 s0_1 s0_2 s0_3) (hB : Below w0.heap.size w0 w) (h : pat_places_put.f s0_0 s0_1 s0_2 s0_3 a1 = some (r1, r2, r3, r4)) :
 Calls Try.prog 45 #[.pointer (some ⟨g, 0, none⟩), .int .i64 a1] w fun e w' => e = .returned (.tuple #[]) ∧ IsS71 w0 w' g r1 r2 r3 r4 ∧ Below w0.heap.size w0 w' ∧ KeepBut w w' g none := by
 have hu71 := Try.underlying71
 obtain ⟨hb, hg⟩ := hI
 unfold pat_places_put.f at h
 have hc0 : w.cell? ⟨g, 0, none⟩ = some (.int .u64 s0_0) := (blk_cell hb 0).trans rfl
 have hc1 : w.cell? ⟨g, 1, none⟩ = some (.int .u64 s0_1) := (blk_cell hb 1).trans rfl
 have hc2 : w.cell? ⟨g, 2, none⟩ = some (.int .u64 s0_2) := (blk_cell hb 2).trans rfl
 have hc3 : w.cell? ⟨g, 3, none⟩ = some (.int .u64 s0_3) := (blk_cell hb 3).trans rfl
 have hf0 := bF hb 0
 have hf1 := bF hb 1
 have hf2 := bF hb 2
 have hf3 := bF hb 3
 have HBK := aM hb
 have HB := aM hB
 clear hb hB
 by_cases h0 : 0 ≤ a1
 · rw [if_pos h0] at h
   have hm0 : 0 ≤ a1 % 64 := by omega
   have hm1 : a1 % 64 ≤ 63 := by omega
   by_cases h1 : a1 < 64
   · rw [if_pos h1] at h
     simp only [Option.some.injEq, Prod.mk.injEq] at h
     obtain ⟨rfl, rfl, rfl, rfl⟩ := h
     have hq : a1 / 64 = 0 := by omega
     go_enter Try.func45, Try.ntmps45
     go_wp2
     go_region
     all_goals
      go_end0
      exact ⟨rfl, ⟨blk_drew (by simpa using blk_set HBK.out 0 _), hg⟩, below_drew1 (below_set (by with_reducible exact HB.out) hg), keep_drew (KeepBut.set_ (KeepBut.refl _ _ _) _ _)⟩
   · rw [if_neg h1] at h
     by_cases h2 : a1 < 128
     · rw [if_pos h2] at h
       simp only [Option.some.injEq, Prod.mk.injEq] at h
       obtain ⟨rfl, rfl, rfl, rfl⟩ := h
       have hq : a1 / 64 = 1 := by omega
       go_enter Try.func45, Try.ntmps45
       go_wp2
       go_region
       all_goals
        go_end0
        exact ⟨rfl, ⟨blk_drew (by simpa using blk_set HBK.out 1 _), hg⟩, below_drew1 (below_set (by with_reducible exact HB.out) hg), keep_drew (KeepBut.set_ (KeepBut.refl _ _ _) _ _)⟩
     · rw [if_neg h2] at h
       by_cases h3 : a1 < 192
       · rw [if_pos h3] at h
         simp only [Option.some.injEq, Prod.mk.injEq] at h
         obtain ⟨rfl, rfl, rfl, rfl⟩ := h
         have hq : a1 / 64 = 2 := by omega
         go_enter Try.func45, Try.ntmps45
         go_wp2
         go_region
         all_goals
          go_end0
          exact ⟨rfl, ⟨blk_drew (by simpa using blk_set HBK.out 2 _), hg⟩, below_drew1 (below_set (by with_reducible exact HB.out) hg), keep_drew (KeepBut.set_ (KeepBut.refl _ _ _) _ _)⟩
       · rw [if_neg h3] at h
         by_cases h4 : a1 < 256
         · rw [if_pos h4] at h
           simp only [Option.some.injEq, Prod.mk.injEq] at h
           obtain ⟨rfl, rfl, rfl, rfl⟩ := h
           have hq : a1 / 64 = 3 := by omega
           go_enter Try.func45, Try.ntmps45
           go_wp2
           go_region
           all_goals
            go_end0
            exact ⟨rfl, ⟨blk_drew (by simpa using blk_set HBK.out 3 _), hg⟩, below_drew1 (below_set (by with_reducible exact HB.out) hg), keep_drew (KeepBut.set_ (KeepBut.refl _ _ _) _ _)⟩
         · rw [if_neg h4] at h
           cases h
 · rw [if_neg h0] at h
   cases h
def wbit (x i : Int) : Bool := Go.bits .and .u64 (x / 2 ^ i.toNat) 1 == 1
def pat_places_has.f (x0 x1 x2 x3 i : Int) : Option Bool := if 0 ≤ i then (if i < 64 then some (wbit x0 (i % 64)) else if i < 128 then some (wbit x1 (i % 64)) else if i < 192 then some (wbit x2 (i % 64)) else if i < 256 then some (wbit x3 (i % 64)) else none) else none
set_option maxHeartbeats 2000000 in
set_option maxRecDepth 100000 in
theorem pat_places_has.calls (a0_0 : Int) (a0_1 : Int) (a0_2 : Int) (a0_3 : Int) (a1 : Int) (r : Bool) (w : World) (h : pat_places_has.f a0_0 a0_1 a0_2 a0_3 a1 = some r) :
 Calls Try.prog 47 #[.agg #[.int .u64 a0_0, .int .u64 a0_1, .int .u64 a0_2, .int .u64 a0_3], .int .i64 a1] w fun e w' => e = .returned (.bool r) ∧ Below w.heap.size w w' := by
 have hu71 := Try.underlying71
 unfold pat_places_has.f wbit at h
 by_cases h0 : 0 ≤ a1
 · rw [if_pos h0] at h
   have hm0 : 0 ≤ a1 % 64 := by omega
   have hm1 : a1 % 64 ≤ 63 := by omega
   by_cases h1 : a1 < 64
   · rw [if_pos h1] at h
     obtain rfl := Option.some.inj h
     have hq : a1 / 64 = 0 := by omega
     clear h
     go_enter Try.func47, Try.ntmps47
     go_wp2
     go_ret
     exact ⟨rfl, below_alloc (Below.refl _ _) _⟩
   · rw [if_neg h1] at h
     by_cases h2 : a1 < 128
     · rw [if_pos h2] at h
       obtain rfl := Option.some.inj h
       have hq : a1 / 64 = 1 := by omega
       clear h
       go_enter Try.func47, Try.ntmps47
       go_wp2
       go_ret
       exact ⟨rfl, below_alloc (Below.refl _ _) _⟩
     · rw [if_neg h2] at h
       by_cases h3 : a1 < 192
       · rw [if_pos h3] at h
         obtain rfl := Option.some.inj h
         have hq : a1 / 64 = 2 := by omega
         clear h
         go_enter Try.func47, Try.ntmps47
         go_wp2
         go_ret
         exact ⟨rfl, below_alloc (Below.refl _ _) _⟩
       · rw [if_neg h3] at h
         by_cases h4 : a1 < 256
         · rw [if_pos h4] at h
           obtain rfl := Option.some.inj h
           have hq : a1 / 64 = 3 := by omega
           clear h
           go_enter Try.func47, Try.ntmps47
           go_wp2
           go_ret
           exact ⟨rfl, below_alloc (Below.refl _ _) _⟩
         · rw [if_neg h4] at h
           cases h
 · rw [if_neg h0] at h
   cases h
set_option maxHeartbeats 2000000 in
set_option maxRecDepth 100000 in
theorem idxf_108 {p : S66 → Bool} {g : Nat} {lb : Array Value} (eg : ∀ args w, (callFunc g args).run Try.prog w = .ok (.enter g args) w) {A : Option Addr} {c : Nat} {xs : List S66} {w : World} (hr : Kd.C k66 w A xs.length xs)
 (hp : PredK Try.prog g lb k66 aggV p w xs) :
 Calls Try.prog 108 #[.slice A xs.length c, .func (.func g) #[] lb] w fun e w' => e = .returned (.int .i64 (idxP p xs 0)) ∧ Below w.heap.size w w' := by
 have hbig := hr.2.1
 have hu66 := Try.underlying66
 have HR := aM hr
 have HP := aM hp
 clear hr hp
 go_enter Try.func108, Try.ntmps108
 go_wp2
 go_loopg [5, 8] xs.length (fun gg _ s8 wr => ∃ kk : Nat, kk ≤ xs.length ∧ xs.length - kk ≤ gg ∧ s8 = .int .i64 kk ∧ Aside0 (Below w.heap.size w wr) ∧ Aside0 (idxP p xs 0 = idxP p (xs.drop kk) kk))
 case atStart => exact ⟨0, Nat.zero_le _, by omega, rfl, ⟨Below.refl _ w⟩, ⟨rfl⟩⟩
 case round =>
  obtain ⟨kk, hkk, hg, rfl, BW, HA⟩ := hrel
  by_cases hlt : kk < xs.length
  · have hltz : (kk : Int) < (xs.length : Int) := by omega
    have hd : xs.drop kk = (rd_T66 xs kk) :: xs.drop (kk + 1) := by
     rw [List.drop_eq_getElem_cons hlt]
     congr 1
     simp [rd_T66, List.getD_eq_getElem?_getD, List.getElem?_eq_getElem hlt]
    obtain ⟨ad, e, hx0, hx1⟩ := at_T66 HR.out (kk : Int) (by omega) (by omega)
    subst e
    simp only [Int.toNat_natCast] at hx0 hx1
    have hcall := HP.out (rd_T66 xs kk) (by simp [rd_T66, List.getD_eq_getElem?_getD, List.getElem?_eq_getElem hlt]) wr _ BW.out (k66.K_below BW.out (k66_mk w (rd_T66 xs kk) ))
    unfold aggV at hcall
    replace hx0 := (BW.out.cell (World.block_lt_of_cell? w _ hx0)).trans hx0
    replace hx1 := (BW.out.cell (World.block_lt_of_cell? w _ hx1)).trans hx1
    cases hq : p (rd_T66 xs kk) with
    | true =>
     rw [hq] at hcall
     go_wp2_with ((with_reducible refine hcall.mono ?_); rintro e w' ⟨rfl, hb'⟩)
     go_ret
     refine ⟨?_, hb'⟩
     rw [HA.out, hd, idxP, if_pos hq]
     rfl
    | false =>
     rw [hq] at hcall
     go_wp2_with ((with_reducible refine hcall.mono ?_); rintro e w' ⟨rfl, hb'⟩)
     go_roundg (xs.length - (kk + 1))
     case measure => omega
     case rel => exact ⟨kk + 1, by omega, by omega, by go_num, ⟨hb'⟩, ⟨by rw [HA.out, hd, idxP, if_neg (by simp [hq])]⟩⟩
  · have hltz : ¬ (kk : Int) < (xs.length : Int) := by omega
    have : kk = xs.length := by omega
    subst this
    go_wp2
    go_ret
    refine ⟨?_, BW.out⟩
    rw [HA.out, List.drop_length]
    rfl
set_option maxHeartbeats 2000000 in
set_option maxRecDepth 100000 in
theorem conf_99 {p : S66 → Bool} {g : Nat} {lb : Array Value} (eg : ∀ args w, (callFunc g args).run Try.prog w = .ok (.enter g args) w) {A : Option Addr} {c : Nat} {xs : List S66} {w : World} (hr : Kd.C k66 w A xs.length xs)
 (hp : PredK Try.prog g lb k66 aggV p w xs) :
 Calls Try.prog 99 #[.slice A xs.length c, .func (.func g) #[] lb] w fun e w' => e = .returned (.bool (xs.any p)) ∧ Below w.heap.size w w' := by
 have H := idxf_108 eg (c := c) hr hp
 rw [← idxP_lt p xs 0]
 generalize idxP p xs 0 = r at H ⊢
 clear hr hp
 have hH := aM H
 clear H
 go_enter Try.func99, Try.ntmps99
 go_wp2_with ((with_reducible refine hH.out.mono ?_); rintro e w' ⟨rfl, hb'⟩)
 go_ret
 exact ⟨rfl, hb'⟩
end Go.Proofs.Ytlkjfjlmjgkheaa.H
namespace Go.Proofs.Ytlkjfjlmjgkheaa.H
open Go.RowKit Go.Proofs.YtlkjfjlmjgkheaaW.PrintWords Go.Proofs.YtlkjfjlmjgkheaaW.PrintLast Go.Proofs.YtlkjfjlmjgkheaaW.PrintMore
attribute [local go_sem] max2_int min2_int max_two min_two max_three min_three max_four min_four
set_option linter.unusedVariables false
set_option linter.unusedSimpArgs false
set_option maxHeartbeats 2000000 in
set_option maxRecDepth 100000 in
theorem span_In_1 (b : Nat) (x : S66) (n : Int) (W : World) (hc : W.cell? ⟨b, 0, none⟩ = some (.int .u32 n)) :
 Calls Try.prog 100 #[.agg #[.int .u32 x.f0, .int .u32 x.f1], .pointer (some ⟨b, 0, none⟩)] W fun e w' => e = .returned (.bool (decide (x.f0 ≤ n) && decide (n ≤ x.f1))) ∧ Below W.heap.size W w' := by
 have hu66 := Try.underlying66
 have hlt : b < W.heap.size := World.block_lt_of_cell? W _ hc
 by_cases h1 : x.f0 ≤ n
 · have hd : decide (x.f0 ≤ n) = true := decide_eq_true h1
   go_enter Try.func100, Try.ntmps100
   go_wp2
   go_ret
   exact ⟨by simp [hd], below_alloc (Below.refl _ _) _⟩
 · have hd : decide (x.f0 ≤ n) = false := decide_eq_false h1
   go_enter Try.func100, Try.ntmps100
   go_wp2
   go_ret
   exact ⟨by simp [hd], below_alloc (Below.refl _ _) _⟩
def span_In.f (l0 : List S66) (a1 : Int) : Option Bool := some (l0.any fun s => decide (s.f0 ≤ a1) && decide (a1 ≤ s.f1))
set_option maxHeartbeats 2000000 in
set_option maxRecDepth 100000 in
theorem span_In.calls (A0 : Option Addr) (c0 : Nat) (l0 : List S66) (a1 : Int) (r : Bool) (w : World) (hr0 : Kd.C k66 w A0 l0.length l0) (hc0 : l0.length ≤ c0) (h : span_In.f l0 a1 = some r) :
 Calls Try.prog 81 #[.slice A0 l0.length c0, .int .u32 a1] w fun e w' => e = .returned (.bool r) ∧ Below w.heap.size w w' := by
 obtain rfl := Option.some.inj h
 have hp : PredK Try.prog 100 #[.pointer (some ⟨w.heap.size, 0, none⟩)] k66 aggV (fun s : S66 => decide (s.f0 ≤ a1) && decide (a1 ≤ s.f1)) (w.alloc (.cells #[.int .u32 a1] 36)) l0 := by
  intro x hx W cs hb hk
  obtain rfl := k66_open hk
  have hc : W.cell? ⟨w.heap.size, 0, none⟩ = some (.int .u32 a1) := (hb.cell (p := ⟨w.heap.size, 0, none⟩) (by simp)).trans (by simp)
  refine (span_In_1 w.heap.size x a1 W hc).mono ?_
  rintro e w' ⟨he, hb'⟩
  exact ⟨he, below_then hb (by have := hb.size; simpa using this) hb'⟩
 have H := aM (conf_99 (fun args w => enters_ Try.func100 (by kernel_rfl) rfl args w) (c := c0) (Kd.C_below hr0 (below_alloc (Below.refl _ _) _)) hp)
 clear hp hr0 h
 go_enter Try.func81, Try.ntmps81
 go_wp2_with ((with_reducible refine H.out.mono ?_); rintro e w' ⟨rfl, hb'⟩)
 go_ret
 exact ⟨rfl, below_step (below_alloc (Below.refl _ _) _) hb'⟩
theorem idx71 (y0 y1 y2 y3 : Value) (W : World) : (Instr.index 71 (.agg #[y0, y1, y2, y3]) (.int .i64 0)).run Try.prog W = .ok y0 W ∧ (Instr.index 71 (.agg #[y0, y1, y2, y3]) (.int .i64 1)).run Try.prog W = .ok y1 W ∧ (Instr.index 71 (.agg #[y0, y1, y2, y3]) (.int .i64 2)).run Try.prog W = .ok y2 W ∧ (Instr.index 71 (.agg #[y0, y1, y2, y3]) (.int .i64 3)).run Try.prog W = .ok y3 W := ⟨by kernel_rfl, by kernel_rfl, by kernel_rfl, by kernel_rfl⟩
def pat_places_with.f (x0 x1 x2 x3 y0 y1 y2 y3 : Int) : Option (Int × Int × Int × Int) := some (Go.bits .or .u64 x0 y0, Go.bits .or .u64 x1 y1, Go.bits .or .u64 x2 y2, Go.bits .or .u64 x3 y3)
def withAt (k : Nat) (x y : Int) (j : Nat) : Int := if j < k then Go.bits .or .u64 x y else x
set_option maxHeartbeats 4000000 in
set_option maxRecDepth 100000 in
theorem pat_places_with.calls (a0_0 : Int) (a0_1 : Int) (a0_2 : Int) (a0_3 : Int) (a1_0 : Int) (a1_1 : Int) (a1_2 : Int) (a1_3 : Int) (r1 r2 r3 r4 : Int) (w : World) (h : pat_places_with.f a0_0 a0_1 a0_2 a0_3 a1_0 a1_1 a1_2 a1_3 = some (r1, r2, r3, r4)) :
 Calls Try.prog 82 #[.agg #[.int .u64 a0_0, .int .u64 a0_1, .int .u64 a0_2, .int .u64 a0_3], .agg #[.int .u64 a1_0, .int .u64 a1_1, .int .u64 a1_2, .int .u64 a1_3]] w fun e w' => e = .returned (.agg #[.int .u64 r1, .int .u64 r2, .int .u64 r3, .int .u64 r4]) ∧ Below w.heap.size w w' := by
 simp only [pat_places_with.f, Option.some.injEq, Prod.mk.injEq] at h
 obtain ⟨rfl, rfl, rfl, rfl⟩ := h
 have hu71 := Try.underlying71
 go_enter Try.func82, Try.ntmps82
 go_wp2
 go_loopg [5, 6, 8] 5 (fun gg _ _ s8 wr => ∃ kk : Nat, kk ≤ 4 ∧ 4 - kk ≤ gg ∧ s8 = .int .i64 kk ∧ Aside0 (Below w.heap.size w wr) ∧ Aside0 (wr.heap[w.heap.size]? = some (.cells #[.int .u64 (withAt kk a0_0 a1_0 0), .int .u64 (withAt kk a0_1 a1_1 1), .int .u64 (withAt kk a0_2 a1_2 2), .int .u64 (withAt kk a0_3 a1_3 3)] 71 (0, 0))) ∧ Aside0 (wr.heap[w.heap.size + 2]? = some (.cells #[.int .u64 0, .int .u64 0, .int .u64 0, .int .u64 0] 71 (0, 0))))
 case atStart => exact ⟨0, by omega, by omega, rfl, ⟨below_alloc (below_alloc (below_alloc (Below.refl _ _) _) _) _⟩, ⟨blk_alloc (blk_alloc (heap_alloc_new w _) _) _⟩, ⟨by simpa using heap_alloc_new ((w.alloc _).alloc _) _⟩⟩
 case round =>
  obtain ⟨kk, hkk, hg, rfl, BW, HK, HR⟩ := hrel
  have hb := HK.out
  have hr := HR.out
  have hc0 : wr.cell? ⟨w.heap.size, 0, none⟩ = some (.int .u64 (withAt kk a0_0 a1_0 0)) := (blk_cell hb 0).trans rfl
  have hc1 : wr.cell? ⟨w.heap.size, 1, none⟩ = some (.int .u64 (withAt kk a0_1 a1_1 1)) := (blk_cell hb 1).trans rfl
  have hc2 : wr.cell? ⟨w.heap.size, 2, none⟩ = some (.int .u64 (withAt kk a0_2 a1_2 2)) := (blk_cell hb 2).trans rfl
  have hc3 : wr.cell? ⟨w.heap.size, 3, none⟩ = some (.int .u64 (withAt kk a0_3 a1_3 3)) := (blk_cell hb 3).trans rfl
  have hd0 : wr.cell? ⟨w.heap.size + 2, 0, none⟩ = some (.int .u64 0) := (blk_cell hr 0).trans rfl
  have hd1 : wr.cell? ⟨w.heap.size + 2, 1, none⟩ = some (.int .u64 0) := (blk_cell hr 1).trans rfl
  have hd2 : wr.cell? ⟨w.heap.size + 2, 2, none⟩ = some (.int .u64 0) := (blk_cell hr 2).trans rfl
  have hd3 : wr.cell? ⟨w.heap.size + 2, 3, none⟩ = some (.int .u64 0) := (blk_cell hr 3).trans rfl
  have hf0 := bF hb 0
  have hf1 := bF hb 1
  have hf2 := bF hb 2
  have hf3 := bF hb 3
  have hg0 := bF hr 0
  have hg1 := bF hr 1
  have hg2 := bF hr 2
  have hg3 := bF hr 3
  have hi := fun W => idx71 (.int .u64 a1_0) (.int .u64 a1_1) (.int .u64 a1_2) (.int .u64 a1_3) W
  have hi0 := fun W => (hi W).1
  have hi1 := fun W => (hi W).2.1
  have hi2 := fun W => (hi W).2.2.1
  have hi3 := fun W => (hi W).2.2.2
  clear hi hb hr
  match kk, hkk with
  | 0, _ =>
   go_wp2
   go_roundg (4 - 1)
   case measure => omega
   case rel => exact ⟨1, by omega, by omega, by rfl, ⟨below_set (by with_reducible exact BW.out) (Nat.le_refl _)⟩, ⟨by have := blk_set HK.out 0 (.int .u64 (Go.bits .or .u64 a0_0 a1_0)); simpa [withAt] using this⟩, ⟨blk_far HR.out (by show w.heap.size + 2 ≠ w.heap.size; omega) _⟩⟩
  | 1, _ =>
   go_wp2
   go_roundg (4 - 2)
   case measure => omega
   case rel => exact ⟨2, by omega, by omega, by rfl, ⟨below_set (by with_reducible exact BW.out) (Nat.le_refl _)⟩, ⟨by have := blk_set HK.out 1 (.int .u64 (Go.bits .or .u64 a0_1 a1_1)); simpa [withAt] using this⟩, ⟨blk_far HR.out (by show w.heap.size + 2 ≠ w.heap.size; omega) _⟩⟩
  | 2, _ =>
   go_wp2
   go_roundg (4 - 3)
   case measure => omega
   case rel => exact ⟨3, by omega, by omega, by rfl, ⟨below_set (by with_reducible exact BW.out) (Nat.le_refl _)⟩, ⟨by have := blk_set HK.out 2 (.int .u64 (Go.bits .or .u64 a0_2 a1_2)); simpa [withAt] using this⟩, ⟨blk_far HR.out (by show w.heap.size + 2 ≠ w.heap.size; omega) _⟩⟩
  | 3, _ =>
   go_wp2
   go_roundg (4 - 4)
   case measure => omega
   case rel => exact ⟨4, by omega, by omega, by rfl, ⟨below_set (by with_reducible exact BW.out) (Nat.le_refl _)⟩, ⟨by have := blk_set HK.out 3 (.int .u64 (Go.bits .or .u64 a0_3 a1_3)); simpa [withAt] using this⟩, ⟨blk_far HR.out (by show w.heap.size + 2 ≠ w.heap.size; omega) _⟩⟩
  | 4, _ =>
   go_wp2
   refine bodyPost_ret (results_cell_row rfl _ _ (w.heap.size + 2) 71 #[.int .u64 (Go.bits .or .u64 a0_0 a1_0), .int .u64 (Go.bits .or .u64 a0_1 a1_1), .int .u64 (Go.bits .or .u64 a0_2 a1_2), .int .u64 (Go.bits .or .u64 a0_3 a1_3)] (0, 0) _ rfl (by have h0 := blk_put (cs := #[.int .u64 0, .int .u64 0, .int .u64 0, .int .u64 0]) HR.out 0 (.int .u64 (Go.bits .or .u64 a0_0 a1_0)) rfl; have h1 := blk_put h0 1 (.int .u64 (Go.bits .or .u64 a0_1 a1_1)) rfl; have h2 := blk_put h1 2 (.int .u64 (Go.bits .or .u64 a0_2 a1_2)) rfl; exact blk_put h2 3 (.int .u64 (Go.bits .or .u64 a0_3 a1_3)) rfl) Try.underlying71 rfl (by kernel_rfl)) rfl ?_
   exact ⟨rfl, below_set (below_set (below_set (below_set (by with_reducible exact BW.out) (by omega)) (by omega)) (by omega)) (by omega)⟩
end Go.Proofs.Ytlkjfjlmjgkheaa.H
