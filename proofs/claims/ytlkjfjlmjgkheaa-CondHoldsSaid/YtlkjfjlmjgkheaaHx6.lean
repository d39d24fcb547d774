import Derived.Test.YtlkjfjlmjgkheaaHx0
namespace Go.Proofs.Ytlkjfjlmjgkheaa.H
open Go.RowKit Go.Proofs.YtlkjfjlmjgkheaaW.PrintWords Go.Proofs.YtlkjfjlmjgkheaaW.PrintLast Go.Proofs.YtlkjfjlmjgkheaaW.PrintMore
attribute [local go_sem] max2_int min2_int max_two min_two max_three min_three max_four min_four
set_option linter.unusedVariables false
set_option linter.unusedSimpArgs false
mutual
def pat_Size.l0 : Nat → Int → Int → List (S25) → Int → Int → Option (Int × Int)
 | 0, _, _, _, _, _ => none
 | k + 1, x2, x3, x9, x10, x11 => if x11 < x10 then (if 0 ≤ x11 then (if x11 < (x9.length : Int) then ((pat_Size.f k ((rd_T25 x9 x11).f0) ((rd_T25 x9 x11).f1) ((rd_T25 x9 x11).f2)).bind fun bt104 => (pat_Size.l0 k (wrap64 (x2 + bt104.1)) (mx x3 bt104.2) x9 x10 (wrap64 (x11 + 1)))) else (none)) else (none)) else (some (x2, wrap64 (x3 + 1)))
def pat_Size.f : Nat → Int → List (S66) → List (S25) → Option (Int × Int)
 | 0, _, _, _ => none
 | k + 1, a0_0, l0_1, l0_2 => pat_Size.l0 k 1 0 l0_2 (l0_2.length : Int) 0
end
theorem pat_Size.mono_l : ∀ k, (∀ y0 y1 y2, LeO (pat_Size.f k y0 y1 y2) (pat_Size.f (k + 1) y0 y1 y2)) ∧ (∀ y0 y1 y2 y3 y4, LeO (pat_Size.l0 k y0 y1 y2 y3 y4) (pat_Size.l0 (k + 1) y0 y1 y2 y3 y4))
 | 0 => ⟨fun _ _ _ r h => by simp [pat_Size.f] at h, fun _ _ _ _ _ r h => by simp [pat_Size.l0] at h⟩
 | k + 1 => by
  obtain ⟨ih0, ih1⟩ := pat_Size.mono_l k
  refine ⟨?_, ?_⟩
  · intro y0 y1 y2
    unfold pat_Size.f
    repeat' first
    | (with_reducible exact ih0 _ _ _)
    | (with_reducible exact ih1 _ _ _ _ _)
    | (with_reducible exact LeO.refl _)
    | (with_reducible exact LeO.none _)
    | (with_reducible refine LeO.ite ?_ ?_)
    | (with_reducible refine LeO.bind ?_ (fun _ => ?_))
    | exact ih0 _ _ _
    | exact ih1 _ _ _ _ _
    | exact LeO.none _
    | refine LeO.ite ?_ ?_
    | refine LeO.bind ?_ (fun _ => ?_)
  · intro y0 y1 y2 y3 y4
    unfold pat_Size.l0
    repeat' first
    | (with_reducible exact ih0 _ _ _)
    | (with_reducible exact ih1 _ _ _ _ _)
    | (with_reducible exact LeO.refl _)
    | (with_reducible exact LeO.none _)
    | (with_reducible refine LeO.ite ?_ ?_)
    | (with_reducible refine LeO.bind ?_ (fun _ => ?_))
    | exact ih0 _ _ _
    | exact ih1 _ _ _ _ _
    | exact LeO.none _
    | refine LeO.ite ?_ ?_
    | refine LeO.bind ?_ (fun _ => ?_)
theorem pat_Size.mono : ∀ a0 a1 a2 k, LeO (pat_Size.f k a0 a1 a2) (pat_Size.f (k + 1) a0 a1 a2) := by
 intro a0 a1 a2 k
 obtain ⟨ih0, ih1⟩ := pat_Size.mono_l k
 exact ih0 a0 a1 a2
set_option maxHeartbeats 8000000 in
set_option maxRecDepth 100000 in
theorem pat_Size.calls (k : Nat) : ∀ (a0_0 : Int) (A0_1 : Option Addr) (c0_1 : Nat) (l0_1 : List (S66)) (A0_2 : Option Addr) (c0_2 : Nat) (l0_2 : List (S25)) (r1 : Int) (r2 : Int) (w : World) (hr0_1 : Kd.C k66 w A0_1 l0_1.length l0_1) (hc0_1 : l0_1.length ≤ c0_1) (hr0_2 : Kd.C k25 w A0_2 l0_2.length l0_2) (hc0_2 : l0_2.length ≤ c0_2) (h : pat_Size.f k a0_0 l0_1 l0_2 = some (r1, r2)),
 Calls Try.prog 23 #[.agg #[.int .i64 a0_0, .slice A0_1 l0_1.length c0_1, .slice A0_2 l0_2.length c0_2]] w fun e w' => e = .returned (.tuple #[.int .i64 r1, .int .i64 r2]) ∧ Below w.heap.size w w' := by
 induction k using Nat.strongRecOn with
 | _ k ih =>
 intro a0_0 A0_1 c0_1 l0_1 A0_2 c0_2 l0_2 r1 r2 w hr0_1 hc0_1 hr0_2 hc0_2 h
 cases k with
 | zero => exact absurd h (by simp [pat_Size.f])
 | succ k =>
 simp only [pat_Size.f] at h
 have hu25 := Try.underlying25
 have HR0_1 := aM hr0_1
 have HC0_1 := aM hc0_1
 clear hr0_1 hc0_1
 have HR0_2 := aM hr0_2
 have HC0_2 := aM hc0_2
 clear hr0_2 hc0_2
 have HB := aM (Below.refl w.heap.size w)
 have H : (pat_Size.l0 k 1 0 l0_2 (l0_2.length : Int) 0) = some (r1, r2) := h
 clear h
 have H' := aM H
 clear H
 go_enter Try.func23, Try.ntmps23
 go_wp2_with (first | ((with_reducible refine gd_ 1 rfl ?_); refine be_ #[.int .i64 a0_0, .slice A0_1 l0_1.length c0_1, .slice A0_2 l0_2.length c0_2] 25 ?_; intro gb101 hg w2 BK101 hb; have GW101 := ge_ HB hg; have GE101 := ge_ HB hg; replace HB := bs_ HB hb; clear hb hg; obtain ⟨hcz3_0, hcz3_1, hcz3_2, hfz3_0, hfz3_1, hfz3_2⟩ := bc3_ BK101))
 go_loopg [2, 3, 11] k (fun kq v2 v3 v11 w' => ∃ (x2_1 : Int) (x3_1 : Int) (x11_1 : Int), v2 = .int .i64 x2_1 ∧ v3 = .int .i64 x3_1 ∧ v11 = .int .i64 x11_1 ∧ Aside0 (pat_Size.l0 kq x2_1 x3_1 l0_2 (l0_2.length : Int) x11_1 = some (r1, r2)) ∧ Aside0 (kq ≤ k) ∧ Aside0 (w'.heap[gb101]? = some (.cells #[.int .i64 a0_0, (.slice A0_1 l0_1.length c0_1), (.slice A0_2 l0_2.length c0_2)] 25 (0, 0))) ∧ Aside0 (Below w.heap.size w w'))
 case atStart => exact ⟨(1), (0), (0), rf_, rf_, rf_, H', ⟨Nat.le_refl _⟩, ⟨ub_ BK101.out⟩, ⟨bw_ HB.out⟩⟩
 case round =>
  clear H'
  obtain ⟨x2_1, x3_1, x11_1, rfl, rfl, rfl, HA, HK1, BK101, HB⟩ := hrel
  cases gk with
  | zero => exact absurd HA.out (by simp [pat_Size.l0])
  | succ k1 =>
   have H := HA.out
   clear HA
   simp only [pat_Size.l0] at H
   by_cases c4 : x11_1 < (l0_2.length : Int)
   rotate_left
   · rw [if_neg c4] at H
     replace c4 := decide_eq_false c4
     simp only [Option.some.injEq, Prod.mk.injEq] at H
     obtain ⟨rfl, rfl⟩ := H
     go_wp2
     first | go_ret2 | refine ⟨_, results_tmp2 rfl _ _ _, ?_⟩
     exact fin_ HB
   rw [if_pos c4] at H
   replace c4 := decide_eq_true c4
   obtain ⟨c5, H⟩ := ifd_ H
   obtain ⟨c6, H⟩ := ifd_ H
   obtain ⟨⟨t104, t105⟩, A7, H⟩ := bnd_ H
   dsimp only at H
   obtain ⟨ji8, hji8⟩ : ∃ j_ : Int, (mx x3_1 t105) = j_ := ⟨_, rfl⟩
   replace H : (pat_Size.l0 k1 (wrap64 (x2_1 + t104)) ji8 l0_2 (l0_2.length : Int) (wrap64 (x11_1 + 1))) = some (r1, r2) := by first | (rw [hji8] at H; exact H) | (simp only [hji8] at H ⊢; exact H)
   (try rw [hji8] at A7)
   have hji8_ : (if x3_1 < t105 then t105 else x3_1) = ji8 := hji8
   have H' := aM H
   clear H
   have p102 : 0 ≤ (x11_1 : Int) := od_
   have q102 : x11_1 < (l0_2.length : Int) := od_
   obtain ⟨ad102, A102_1, c102_1, A102_2, c102_2, e102, hx102_0, hx102_1, hx102_2, hl102_1, hi102_1, hl102_2, hi102_2⟩ := at_T25 HR0_2.out x11_1 p102 q102
   cases e102
   replace hx102_0 := hx_ HB hx102_0
   replace hx102_1 := hx_ HB hx102_1
   replace hx102_2 := hx_ HB hx102_2
   have HR102_1 := aM hi102_1
   have HC102_1 := aM hl102_1
   clear hi102_1 hl102_1
   have HR102_2 := aM hi102_2
   have HC102_2 := aM hl102_2
   clear hi102_2 hl102_2
   replace p102 := eq_true p102
   replace q102 := eq_true q102
   go_wp2_with (first | ((with_reducible refine gd_ 5 rfl ?_); refine be_ #[.int .i64 0, .slice none 0 0, .slice none 0 0] 25 ?_; intro gb103 hg w9 BK103 hb; have GW103 := ge_ HB hg; have GE103 := ge_ HB hg; have NB101_103 := nl_ BK101 hg; have NB103_101 := ng_ BK101 hg; replace BK101 := bb_ BK101 hb; replace HB := bs_ HB hb; clear hb hg; have hnb10 := NB103_101.out; have hnc10 := NB101_103.out; obtain ⟨hcz11_0, hcz11_1, hcz11_2, hfz11_0, hfz11_1, hfz11_2⟩ := bc3_ BK103) | ((with_reducible refine gf_ 23 rfl ?_); refine gL_ (some 17) rfl rfl Try.func23 #[.agg #[.int .i64 ((rd_T25 l0_2 x11_1).f0), .slice A102_1 ((rd_T25 l0_2 x11_1).f1).length c102_1, .slice A102_2 ((rd_T25 l0_2 x11_1).f2).length c102_2]] rfl ?_; (with_reducible refine (ih k1 (by have := HK1.out; omega) ((rd_T25 l0_2 x11_1).f0) _ _ ((rd_T25 l0_2 x11_1).f1) _ _ ((rd_T25 l0_2 x11_1).f2) t104 t105 _ ?side1 ?side2 ?side3 ?side4 A7.out).mono ?_); (case side1 => exact cB_ HR102_1 HB); (case side2 => exact HC102_1.out); (case side3 => exact cB_ HR102_2 HB); (case side4 => exact HC102_2.out); rintro e w12 ⟨rfl, hb⟩; refine ⟨_, rfl, ?_⟩; replace BK101 := bb_ BK101 hb; replace BK103 := bp_ (.cells #[.int .i64 ((rd_T25 l0_2 x11_1).f0), .slice A102_1 ((rd_T25 l0_2 x11_1).f1).length c102_1, .slice A102_2 ((rd_T25 l0_2 x11_1).f2).length c102_2] 25 (0, 0)) BK103 hb; replace HB := bs_ HB hb; clear hb))
   go_roundg k1
   case measure => have := HK1.out; omega
   case rel => exact ⟨(wrap64 (x2_1 + t104)), (ji8), (wrap64 (x11_1 + 1)), rf_, (by first | rfl | (simp; done) | (simp only [← hji8] <;> (first | rfl | simp)) | (simp [*]; done)), rf_, H', ⟨by have := HK1.out; omega⟩, ⟨ub_ BK101.out⟩, ⟨bw_ HB.out⟩⟩
set_option maxHeartbeats 2000000 in
set_option maxRecDepth 100000 in
theorem idxf_98 {p : S25 → Bool} {g : Nat} {lb : Array Value} (eg : ∀ args w, (callFunc g args).run Try.prog w = .ok (.enter g args) w) {A : Option Addr} {c : Nat} {xs : List S25} {w : World} (hr : Kd.C k25 w A xs.length xs)
 (hp : PredK Try.prog g lb k25 aggV p w xs) :
 Calls Try.prog 98 #[.slice A xs.length c, .func (.func g) #[] lb] w fun e w' => e = .returned (.int .i64 (idxP p xs 0)) ∧ Below w.heap.size w w' := by
 have hbig := hr.2.1
 have hu25 := Try.underlying25
 have HR := aM hr
 have HP := aM hp
 clear hr hp
 go_enter Try.func98, Try.ntmps98
 go_wp2
 go_loopg [5, 8] xs.length (fun gg _ s8 wr => ∃ kk : Nat, kk ≤ xs.length ∧ xs.length - kk ≤ gg ∧ s8 = .int .i64 kk ∧ Aside0 (Below w.heap.size w wr) ∧ Aside0 (idxP p xs 0 = idxP p (xs.drop kk) kk))
 case atStart => exact ⟨0, Nat.zero_le _, by omega, rfl, ⟨Below.refl _ w⟩, ⟨rfl⟩⟩
 case round =>
  obtain ⟨kk, hkk, hg, rfl, BW, HA⟩ := hrel
  by_cases hlt : kk < xs.length
  · have hltz : (kk : Int) < (xs.length : Int) := by omega
    have hd : xs.drop kk = (rd_T25 xs kk) :: xs.drop (kk + 1) := by
     rw [List.drop_eq_getElem_cons hlt]
     congr 1
     simp [rd_T25, List.getD_eq_getElem?_getD, List.getElem?_eq_getElem hlt]
    obtain ⟨ad, A1, c1, A2, c2, e, hx0, hx1, hx2, l1, g1, l2, g2⟩ := at_T25 HR.out (kk : Int) (by omega) (by omega)
    subst e
    simp only [Int.toNat_natCast] at hx0 hx1 hx2
    have hcall := HP.out (rd_T25 xs kk) (by simp [rd_T25, List.getD_eq_getElem?_getD, List.getElem?_eq_getElem hlt]) wr _ BW.out (k25.K_below BW.out (k25_mk w (rd_T25 xs kk) l1 g1 l2 g2))
    unfold aggV at hcall
    replace hx0 := (BW.out.cell (World.block_lt_of_cell? w _ hx0)).trans hx0
    replace hx1 := (BW.out.cell (World.block_lt_of_cell? w _ hx1)).trans hx1
    replace hx2 := (BW.out.cell (World.block_lt_of_cell? w _ hx2)).trans hx2
    cases hq : p (rd_T25 xs kk) with
    | true =>
     rw [hq] at hcall
     go_wp2_with ((with_reducible refine hcall.mono ?_); rintro e w' ⟨rfl, hb'⟩)
     go_ret
     refine ⟨?_, hb'⟩
     rw [HA.out, hd, idxP, if_pos hq]
     rfl
    | false =>
     rw [hq] at hcall
     go_wp2_with ((with_reducible refine hcall.mono ?_); rintro e w' ⟨rfl, hb'⟩)
     go_roundg (xs.length - (kk + 1))
     case measure => omega
     case rel => exact ⟨kk + 1, by omega, by omega, by go_num, ⟨hb'⟩, ⟨by rw [HA.out, hd, idxP, if_neg (by simp [hq])]⟩⟩
  · have hltz : ¬ (kk : Int) < (xs.length : Int) := by omega
    have : kk = xs.length := by omega
    subst this
    go_wp2
    go_ret
    refine ⟨?_, BW.out⟩
    rw [HA.out, List.drop_length]
    rfl
set_option maxHeartbeats 2000000 in
set_option maxRecDepth 100000 in
theorem conf_79 {p : S25 → Bool} {g : Nat} {lb : Array Value} (eg : ∀ args w, (callFunc g args).run Try.prog w = .ok (.enter g args) w) {A : Option Addr} {c : Nat} {xs : List S25} {w : World} (hr : Kd.C k25 w A xs.length xs)
 (hp : PredK Try.prog g lb k25 aggV p w xs) :
 Calls Try.prog 79 #[.slice A xs.length c, .func (.func g) #[] lb] w fun e w' => e = .returned (.bool (xs.any p)) ∧ Below w.heap.size w w' := by
 have H := idxf_98 eg (c := c) hr hp
 rw [← idxP_lt p xs 0]
 generalize idxP p xs 0 = r at H ⊢
 clear hr hp
 have hH := aM H
 clear H
 go_enter Try.func79, Try.ntmps79
 go_wp2_with ((with_reducible refine hH.out.mono ?_); rintro e w' ⟨rfl, hb'⟩)
 go_ret
 exact ⟨rfl, hb'⟩
mutual
def fitsP : S25 → Bool
 | ⟨k, set, subs⟩ => if k = 1 then (decide ((subs.length : Int) = 0) && decide ((set.length : Int) ≤ 256)) else if k = 2 ∨ k = 3 ∨ k = 4 then (decide ((set.length : Int) = 0) && ((!(decide (k = 4)) || decide ((subs.length : Int) = 1)) && fitsL subs)) else false
def fitsL : List S25 → Bool
 | [] => true
 | x :: xs => fitsP x && fitsL xs
end
theorem fitsL_any (xs : List S25) : fitsL xs = !(xs.any fun x => !fitsP x) := by
 induction xs with
 | nil => simp [fitsL]
 | cons x xs ih => simp [fitsL, ih, List.any_cons]
theorem fitsP_eq (a0 : Int) (l1 : List S66) (l2 : List S25) : fitsP ⟨a0, l1, l2⟩ = if a0 = 1 then (decide ((l2.length : Int) = 0) && decide ((l1.length : Int) ≤ 256)) else if a0 = 2 ∨ a0 = 3 ∨ a0 = 4 then (decide ((l1.length : Int) = 0) && ((!(decide (a0 = 4)) || decide ((l2.length : Int) = 1)) && fitsL l2)) else false := by rw [fitsP]
def FitsAt (x : S25) : Prop := ∀ (A1 : Option Addr) (c1 : Nat) (A2 : Option Addr) (c2 : Nat) (w : World), Kd.C k66 w A1 x.f1.length x.f1 → x.f1.length ≤ c1 → Kd.C k25 w A2 x.f2.length x.f2 → x.f2.length ≤ c2 →
 Calls Try.prog 43 #[.agg #[.int .i64 x.f0, .slice A1 x.f1.length c1, .slice A2 x.f2.length c2]] w fun e w' => e = .returned (.bool (fitsP x)) ∧ Below w.heap.size w w'
set_option maxHeartbeats 2000000 in
set_option maxRecDepth 100000 in
theorem fits_1 (x : S25) (hx : FitsAt x) (cs : List Value) (W : World) (hk : k25.K W x cs) :
 Calls Try.prog 80 (#[aggV cs] ++ #[]) W fun e w' => e = .returned (.bool (!fitsP x)) ∧ Below W.heap.size W w' := by
 obtain ⟨A1, c1, A2, c2, rfl, l1, g1, l2, g2⟩ := k25_open hk
 have hu25 := Try.underlying25
 have H := aM (hx A1 c1 A2 c2 (W.alloc (.cells #[.int .i64 x.f0, .slice A1 x.f1.length c1, .slice A2 x.f2.length c2] 25)) (Kd.C_below g1 (below_alloc (Below.refl _ _) _)) l1 (Kd.C_below g2 (below_alloc (Below.refl _ _) _)) l2)
 clear hx hk g1 g2
 unfold aggV
 show Calls Try.prog 80 #[.agg #[.int .i64 x.f0, .slice A1 x.f1.length c1, .slice A2 x.f2.length c2]] W _
 generalize fitsP x = r at H ⊢
 go_enter Try.func80, Try.ntmps80
 go_wp2_with ((with_reducible refine H.out.mono ?_); rintro e w' ⟨rfl, hb'⟩)
 go_ret
 exact ⟨rfl, below_step (below_alloc (Below.refl _ _) _) hb'⟩
set_option maxHeartbeats 4000000 in
set_option maxRecDepth 100000 in
theorem fits_at (N : Nat) : ∀ x : S25, SizeOf.sizeOf x < N → FitsAt x := by
 induction N with
 | zero => intro x h; omega
 | succ N ih =>
  rintro ⟨a0, l1, l2⟩ hN A1 c1 A2 c2 w g1 h1 g2 h2
  dsimp only at g1 h1 g2 h2 ⊢
  have hu25 := Try.underlying25
  have hp : PredK Try.prog 80 #[] k25 aggV (fun s => !fitsP s) (w.alloc (.cells #[.int .i64 a0, .slice A1 l1.length c1, .slice A2 l2.length c2] 25)) l2 := by
   intro x hx W cs hb hk
   have hs := List.sizeOf_lt_of_mem hx
   have : SizeOf.sizeOf (S25.mk a0 l1 l2) = 1 + SizeOf.sizeOf a0 + SizeOf.sizeOf l1 + SizeOf.sizeOf l2 := S25.mk.sizeOf_spec a0 l1 l2
   refine (fits_1 x (ih x (by omega)) cs W hk).mono ?_
   rintro e w' ⟨he, hb'⟩
   exact ⟨he, below_then hb (by have := hb.size; simpa using this) hb'⟩
  have H := aM (conf_79 (fun args w => enters_ Try.func80 (by kernel_rfl) rfl args w) (c := c2) (Kd.C_below g2 (below_alloc (Below.refl _ _) _)) hp)
  have hm1 := g1.2.1
  have hm2 := g2.2.1
  clear ih hp g1 g2 hN
  rw [fitsP_eq, fitsL_any]
  generalize (l2.any fun s => !fitsP s) = r at H ⊢
  by_cases k1 : a0 = 1
  · subst k1
    by_cases b1 : (l2.length : Int) = 0
    · have e1 : ((l2.length : Int) == 0) = true := beq_iff_eq.mpr b1
      rw [if_pos rfl, decide_eq_true b1, Bool.true_and]
      clear H b1
      go_enter Try.func43, Try.ntmps43
      go_wp2
      go_ret
      exact ⟨rfl, below_alloc (Below.refl _ _) _⟩
    · have e1 : ((l2.length : Int) == 0) = false := beq_eq_false_iff_ne.mpr b1
      rw [if_pos rfl, decide_eq_false b1, Bool.false_and]
      clear H b1
      go_enter Try.func43, Try.ntmps43
      go_wp2
      go_ret
      exact ⟨rfl, below_alloc (Below.refl _ _) _⟩
  · have k1b : (a0 == 1) = false := beq_eq_false_iff_ne.mpr k1
    by_cases k2 : a0 = 2 ∨ a0 = 3
    · rw [if_neg k1, if_pos (by omega)]
      have k4 : decide (a0 = 4) = false := decide_eq_false (by omega)
      rw [k4, Bool.not_false, Bool.true_or, Bool.true_and]
      clear k1 k1b k4
      by_cases b1 : (l1.length : Int) = 0
      · have e1 : ((l1.length : Int) == 0) = true := beq_iff_eq.mpr b1
        rw [decide_eq_true b1, Bool.true_and]
        clear b1
        rcases k2 with rfl | rfl
        all_goals
         go_enter Try.func43, Try.ntmps43
         go_wp2_with ((with_reducible refine H.out.mono ?_); rintro e w' ⟨rfl, hb'⟩)
         go_ret
         exact ⟨rfl, below_step (below_alloc (Below.refl _ _) _) hb'⟩
      · have e1 : ((l1.length : Int) == 0) = false := beq_eq_false_iff_ne.mpr b1
        rw [decide_eq_false b1, Bool.false_and]
        clear b1 H
        rcases k2 with rfl | rfl
        all_goals
         go_enter Try.func43, Try.ntmps43
         go_wp2
         go_ret
         exact ⟨rfl, below_alloc (Below.refl _ _) _⟩
    · by_cases k4 : a0 = 4
      · subst k4
        rw [if_neg k1, if_pos (by omega), show decide ((4 : Int) = 4) = true from rfl, Bool.not_true, Bool.false_or]
        clear k1 k1b k2
        by_cases b1 : (l1.length : Int) = 0
        · have e1 : ((l1.length : Int) == 0) = true := beq_iff_eq.mpr b1
          rw [decide_eq_true b1, Bool.true_and]
          clear b1
          by_cases b2 : (l2.length : Int) = 1
          · have e2 : ((l2.length : Int) == 1) = true := beq_iff_eq.mpr b2
            rw [decide_eq_true b2, Bool.true_and]
            clear b2
            go_enter Try.func43, Try.ntmps43
            go_wp2_with ((with_reducible refine H.out.mono ?_); rintro e w' ⟨rfl, hb'⟩)
            go_ret
            exact ⟨rfl, below_step (below_alloc (Below.refl _ _) _) hb'⟩
          · have e2 : ((l2.length : Int) == 1) = false := beq_eq_false_iff_ne.mpr b2
            rw [decide_eq_false b2, Bool.false_and]
            clear b2 H
            go_enter Try.func43, Try.ntmps43
            go_wp2
            go_ret
            exact ⟨rfl, below_alloc (Below.refl _ _) _⟩
        · have e1 : ((l1.length : Int) == 0) = false := beq_eq_false_iff_ne.mpr b1
          rw [decide_eq_false b1, Bool.false_and]
          clear b1 H
          go_enter Try.func43, Try.ntmps43
          go_wp2
          go_ret
          exact ⟨rfl, below_alloc (Below.refl _ _) _⟩
      · rw [if_neg k1, if_neg (by omega)]
        have e2 : (a0 == 2) = false := beq_eq_false_iff_ne.mpr (by omega)
        have e3 : (a0 == 3) = false := beq_eq_false_iff_ne.mpr (by omega)
        have e4 : (a0 == 4) = false := beq_eq_false_iff_ne.mpr (by omega)
        clear k1 k2 k4 H
        go_enter Try.func43, Try.ntmps43
        go_wp2
        go_ret
        exact ⟨rfl, below_alloc (Below.refl _ _) _⟩
def pat_fits.f (a0 : Int) (l1 : List S66) (l2 : List S25) : Option Bool := some (fitsP ⟨a0, l1, l2⟩)
theorem pat_fits.calls (a0_0 : Int) (A0_1 : Option Addr) (c0_1 : Nat) (l0_1 : List S66) (A0_2 : Option Addr) (c0_2 : Nat) (l0_2 : List S25) (r : Bool) (w : World) (hr0_1 : Kd.C k66 w A0_1 l0_1.length l0_1) (hc0_1 : l0_1.length ≤ c0_1) (hr0_2 : Kd.C k25 w A0_2 l0_2.length l0_2) (hc0_2 : l0_2.length ≤ c0_2) (h : pat_fits.f a0_0 l0_1 l0_2 = some r) :
 Calls Try.prog 43 #[.agg #[.int .i64 a0_0, .slice A0_1 l0_1.length c0_1, .slice A0_2 l0_2.length c0_2]] w fun e w' => e = .returned (.bool r) ∧ Below w.heap.size w w' := by
 obtain rfl := Option.some.inj h
 exact fits_at _ ⟨a0_0, l0_1, l0_2⟩ (Nat.lt_succ_self _) A0_1 c0_1 A0_2 c0_2 w hr0_1 hc0_1 hr0_2 hc0_2
def pat_Right.f (k : Nat) (a0_0 : Int) (l0_1 : List (S66)) (l0_2 : List (S25)) : Option (Bool) := (pat_Size.f k a0_0 l0_1 l0_2).bind fun bt107 => (if bt107.1 ≤ 200 then (if bt107.2 ≤ 40 then ((pat_fits.f a0_0 l0_1 l0_2).bind fun t109 => (some t109)) else (some false)) else (some false))
theorem pat_Right.mono : ∀ a0 a1 a2 k, LeO (pat_Right.f k a0 a1 a2) (pat_Right.f (k + 1) a0 a1 a2) := by
 intro a0 a1 a2 k
 unfold pat_Right.f
 repeat' first
  | (with_reducible exact pat_Size.mono _ _ _ _)
  | (with_reducible exact LeO.refl _)
  | (with_reducible exact LeO.none _)
  | (with_reducible refine LeO.ite ?_ ?_)
  | (with_reducible refine LeO.bind ?_ (fun _ => ?_))
  | exact pat_Size.mono _ _ _ _
  | exact LeO.none _
  | refine LeO.ite ?_ ?_
  | refine LeO.bind ?_ (fun _ => ?_)
set_option maxHeartbeats 8000000 in
set_option maxRecDepth 100000 in
theorem pat_Right.calls (k : Nat) (a0_0 : Int) (A0_1 : Option Addr) (c0_1 : Nat) (l0_1 : List (S66)) (A0_2 : Option Addr) (c0_2 : Nat) (l0_2 : List (S25)) (r : Bool) (w : World) (hr0_1 : Kd.C k66 w A0_1 l0_1.length l0_1) (hc0_1 : l0_1.length ≤ c0_1) (hr0_2 : Kd.C k25 w A0_2 l0_2.length l0_2) (hc0_2 : l0_2.length ≤ c0_2) (h : pat_Right.f k a0_0 l0_1 l0_2 = some r) :
 Calls Try.prog 16 #[.agg #[.int .i64 a0_0, .slice A0_1 l0_1.length c0_1, .slice A0_2 l0_2.length c0_2]] w fun e w' => e = .returned (.bool r) ∧ Below w.heap.size w w' := by
 have hu25 := Try.underlying25
 have HR0_1 := aM hr0_1
 have HC0_1 := aM hc0_1
 clear hr0_1 hc0_1
 have HR0_2 := aM hr0_2
 have HC0_2 := aM hc0_2
 clear hr0_2 hc0_2
 have HB := aM (Below.refl w.heap.size w)
 have H : ((pat_Size.f k a0_0 l0_1 l0_2).bind fun bt107 => (if bt107.1 ≤ 200 then (if bt107.2 ≤ 40 then ((pat_fits.f a0_0 l0_1 l0_2).bind fun t109 => (some t109)) else (some false)) else (some false))) = some r := h
 clear h
 obtain ⟨⟨t107, t108⟩, A2, H⟩ := bnd_ H
 dsimp only at H
 by_cases c3 : t107 ≤ 200
 rotate_left
 · rw [if_neg c3] at H
   replace c3 := decide_eq_false c3
   obtain rfl := Option.some.inj H
   go_enter Try.func16, Try.ntmps16
   go_wp2_with (first | ((with_reducible refine gd_ 1 rfl ?_); refine be_ #[.int .i64 a0_0, .slice A0_1 l0_1.length c0_1, .slice A0_2 l0_2.length c0_2] 25 ?_; intro gb106 hg w14 BK106 hb; have GW106 := ge_ HB hg; have GE106 := ge_ HB hg; replace HB := bs_ HB hb; clear hb hg; obtain ⟨hcz15_0, hcz15_1, hcz15_2, hfz15_0, hfz15_1, hfz15_2⟩ := bc3_ BK106) | ((with_reducible refine gf_ 23 rfl ?_); refine gL_ (some 7) rfl rfl Try.func23 #[.agg #[.int .i64 a0_0, .slice A0_1 l0_1.length c0_1, .slice A0_2 l0_2.length c0_2]] rfl ?_; (with_reducible refine (pat_Size.calls k a0_0 _ _ l0_1 _ _ l0_2 t107 t108 _ ?side1 ?side2 ?side3 ?side4 A2.out).mono ?_); (case side1 => exact cB_ HR0_1 HB); (case side2 => exact HC0_1.out); (case side3 => exact cB_ HR0_2 HB); (case side4 => exact HC0_2.out); rintro e w16 ⟨rfl, hb⟩; refine ⟨_, rfl, ?_⟩; replace BK106 := bb_ BK106 hb; replace HB := bs_ HB hb; clear hb))
   first | go_ret | refine ⟨_, results_tmp rfl _ _ _, ?_⟩
   exact fin_ HB
 rw [if_pos c3] at H
 replace c3 := decide_eq_true c3
 by_cases c4 : t108 ≤ 40
 rotate_left
 · rw [if_neg c4] at H
   replace c4 := decide_eq_false c4
   obtain rfl := Option.some.inj H
   go_enter Try.func16, Try.ntmps16
   go_wp2_with (first | ((with_reducible refine gd_ 1 rfl ?_); refine be_ #[.int .i64 a0_0, .slice A0_1 l0_1.length c0_1, .slice A0_2 l0_2.length c0_2] 25 ?_; intro gb106 hg w11 BK106 hb; have GW106 := ge_ HB hg; have GE106 := ge_ HB hg; replace HB := bs_ HB hb; clear hb hg; obtain ⟨hcz12_0, hcz12_1, hcz12_2, hfz12_0, hfz12_1, hfz12_2⟩ := bc3_ BK106) | ((with_reducible refine gf_ 23 rfl ?_); refine gL_ (some 7) rfl rfl Try.func23 #[.agg #[.int .i64 a0_0, .slice A0_1 l0_1.length c0_1, .slice A0_2 l0_2.length c0_2]] rfl ?_; (with_reducible refine (pat_Size.calls k a0_0 _ _ l0_1 _ _ l0_2 t107 t108 _ ?side1 ?side2 ?side3 ?side4 A2.out).mono ?_); (case side1 => exact cB_ HR0_1 HB); (case side2 => exact HC0_1.out); (case side3 => exact cB_ HR0_2 HB); (case side4 => exact HC0_2.out); rintro e w13 ⟨rfl, hb⟩; refine ⟨_, rfl, ?_⟩; replace BK106 := bb_ BK106 hb; replace HB := bs_ HB hb; clear hb))
   first | go_ret | refine ⟨_, results_tmp rfl _ _ _, ?_⟩
   exact fin_ HB
 rw [if_pos c4] at H
 replace c4 := decide_eq_true c4
 obtain ⟨t109, A5, H⟩ := bnd_ H
 obtain rfl := Option.some.inj H
 go_enter Try.func16, Try.ntmps16
 go_wp2_with (first | ((with_reducible refine gd_ 1 rfl ?_); refine be_ #[.int .i64 a0_0, .slice A0_1 l0_1.length c0_1, .slice A0_2 l0_2.length c0_2] 25 ?_; intro gb106 hg w6 BK106 hb; have GW106 := ge_ HB hg; have GE106 := ge_ HB hg; replace HB := bs_ HB hb; clear hb hg; obtain ⟨hcz7_0, hcz7_1, hcz7_2, hfz7_0, hfz7_1, hfz7_2⟩ := bc3_ BK106) | ((with_reducible refine gf_ 23 rfl ?_); refine gL_ (some 7) rfl rfl Try.func23 #[.agg #[.int .i64 a0_0, .slice A0_1 l0_1.length c0_1, .slice A0_2 l0_2.length c0_2]] rfl ?_; (with_reducible refine (pat_Size.calls k a0_0 _ _ l0_1 _ _ l0_2 t107 t108 _ ?side1 ?side2 ?side3 ?side4 A2.out).mono ?_); (case side1 => exact cB_ HR0_1 HB); (case side2 => exact HC0_1.out); (case side3 => exact cB_ HR0_2 HB); (case side4 => exact HC0_2.out); rintro e w8 ⟨rfl, hb⟩; refine ⟨_, rfl, ?_⟩; replace BK106 := bb_ BK106 hb; replace HB := bs_ HB hb; clear hb; obtain ⟨hcz9_0, hcz9_1, hcz9_2, hfz9_0, hfz9_1, hfz9_2⟩ := bc3_ BK106) | (go_at_call 43; (with_reducible refine (pat_fits.calls a0_0 _ _ l0_1 _ _ l0_2 t109 _ ?side1 ?side2 ?side3 ?side4 A5.out).mono ?_); (case side1 => exact cB_ HR0_1 HB); (case side2 => exact HC0_1.out); (case side3 => exact cB_ HR0_2 HB); (case side4 => exact HC0_2.out); rintro e w10 ⟨rfl, hb⟩; replace BK106 := bb_ BK106 hb; replace HB := bs_ HB hb; clear hb))
 first | go_ret | refine ⟨_, results_tmp rfl _ _ _, ?_⟩
 exact fin_ HB
set_option maxHeartbeats 2000000 in
set_option maxRecDepth 100000 in
theorem idxf_85 {p : S83 → Bool} {g : Nat} {lb : Array Value} (eg : ∀ args w, (callFunc g args).run Try.prog w = .ok (.enter g args) w) {A : Option Addr} {c : Nat} {xs : List S83} {w : World} (hr : Kd.C k83 w A xs.length xs)
 (hp : PredK Try.prog g lb k83 aggV p w xs) :
 Calls Try.prog 85 #[.slice A xs.length c, .func (.func g) #[] lb] w fun e w' => e = .returned (.int .i64 (idxP p xs 0)) ∧ Below w.heap.size w w' := by
 have hbig := hr.2.1
 have hu83 := Try.underlying83
 have HR := aM hr
 have HP := aM hp
 clear hr hp
 go_enter Try.func85, Try.ntmps85
 go_wp2
 go_loopg [5, 8] xs.length (fun gg _ s8 wr => ∃ kk : Nat, kk ≤ xs.length ∧ xs.length - kk ≤ gg ∧ s8 = .int .i64 kk ∧ Aside0 (Below w.heap.size w wr) ∧ Aside0 (idxP p xs 0 = idxP p (xs.drop kk) kk))
 case atStart => exact ⟨0, Nat.zero_le _, by omega, rfl, ⟨Below.refl _ w⟩, ⟨rfl⟩⟩
 case round =>
  obtain ⟨kk, hkk, hg, rfl, BW, HA⟩ := hrel
  by_cases hlt : kk < xs.length
  · have hltz : (kk : Int) < (xs.length : Int) := by omega
    have hd : xs.drop kk = (rd_T83 xs kk) :: xs.drop (kk + 1) := by
     rw [List.drop_eq_getElem_cons hlt]
     congr 1
     simp [rd_T83, List.getD_eq_getElem?_getD, List.getElem?_eq_getElem hlt]
    obtain ⟨ad, e, hx0, hx1, hx2, hx3, hx4⟩ := at_T83 HR.out (kk : Int) (by omega) (by omega)
    subst e
    simp only [Int.toNat_natCast] at hx0 hx1 hx2 hx3 hx4
    have hcall := HP.out (rd_T83 xs kk) (by simp [rd_T83, List.getD_eq_getElem?_getD, List.getElem?_eq_getElem hlt]) wr _ BW.out (k83.K_below BW.out (k83_mk w (rd_T83 xs kk) ))
    unfold aggV at hcall
    replace hx0 := (BW.out.cell (World.block_lt_of_cell? w _ hx0)).trans hx0
    replace hx1 := (BW.out.cell (World.block_lt_of_cell? w _ hx1)).trans hx1
    replace hx2 := (BW.out.cell (World.block_lt_of_cell? w _ hx2)).trans hx2
    replace hx3 := (BW.out.cell (World.block_lt_of_cell? w _ hx3)).trans hx3
    replace hx4 := (BW.out.cell (World.block_lt_of_cell? w _ hx4)).trans hx4
    cases hq : p (rd_T83 xs kk) with
    | true =>
     rw [hq] at hcall
     go_wp2_with ((with_reducible refine hcall.mono ?_); rintro e w' ⟨rfl, hb'⟩)
     go_ret
     refine ⟨?_, hb'⟩
     rw [HA.out, hd, idxP, if_pos hq]
     rfl
    | false =>
     rw [hq] at hcall
     go_wp2_with ((with_reducible refine hcall.mono ?_); rintro e w' ⟨rfl, hb'⟩)
     go_roundg (xs.length - (kk + 1))
     case measure => omega
     case rel => exact ⟨kk + 1, by omega, by omega, by go_num, ⟨hb'⟩, ⟨by rw [HA.out, hd, idxP, if_neg (by simp [hq])]⟩⟩
  · have hltz : ¬ (kk : Int) < (xs.length : Int) := by omega
    have : kk = xs.length := by omega
    subst this
    go_wp2
    go_ret
    refine ⟨?_, BW.out⟩
    rw [HA.out, List.drop_length]
    rfl
set_option maxHeartbeats 2000000 in
set_option maxRecDepth 100000 in
theorem conf_53 {p : S83 → Bool} {g : Nat} {lb : Array Value} (eg : ∀ args w, (callFunc g args).run Try.prog w = .ok (.enter g args) w) {A : Option Addr} {c : Nat} {xs : List S83} {w : World} (hr : Kd.C k83 w A xs.length xs)
 (hp : PredK Try.prog g lb k83 aggV p w xs) :
 Calls Try.prog 53 #[.slice A xs.length c, .func (.func g) #[] lb] w fun e w' => e = .returned (.bool (xs.any p)) ∧ Below w.heap.size w w' := by
 have H := idxf_85 eg (c := c) hr hp
 rw [← idxP_lt p xs 0]
 generalize idxP p xs 0 = r at H ⊢
 clear hr hp
 have hH := aM H
 clear H
 go_enter Try.func53, Try.ntmps53
 go_wp2_with ((with_reducible refine hH.out.mono ?_); rintro e w' ⟨rfl, hb'⟩)
 go_ret
 exact ⟨rfl, hb'⟩
def route_Mask.f (a0_0 : Int) (a0_1 : Int) : Option (Int × Int) := some ((IntKind.u64.wrap (((IntKind.u64.wrap (a0_0)) / 2 ^ (32 - (mx 0 (mn a0_1 32))).toNat) * 2 ^ (32 - (mx 0 (mn a0_1 32))).toNat)) % 4294967296, mx 0 (mn a0_1 32))
set_option maxHeartbeats 8000000 in
set_option maxRecDepth 100000 in
theorem route_Mask.calls (a0_0 : Int) (a0_1 : Int) (r1 : Int) (r2 : Int) (w : World) (h : route_Mask.f a0_0 a0_1 = some (r1, r2)) :
 Calls Try.prog 86 #[.agg #[.int .u32 a0_0, .int .i64 a0_1]] w fun e w' => e = .returned (.agg #[.int .u32 r1, .int .i64 r2]) ∧ Below w.heap.size w w' := by
 have hu48 := Try.underlying48
 have HB := aM (Below.refl w.heap.size w)
 have H : (some ((IntKind.u64.wrap (((IntKind.u64.wrap (a0_0)) / 2 ^ (32 - (mx 0 (mn a0_1 32))).toNat) * 2 ^ (32 - (mx 0 (mn a0_1 32))).toNat)) % 4294967296, mx 0 (mn a0_1 32))) = some (r1, r2) := h
 clear h
 obtain ⟨ji2, hji2⟩ : ∃ j_ : Int, (mn a0_1 32) = j_ := ⟨_, rfl⟩
 replace H : (some ((IntKind.u64.wrap (((IntKind.u64.wrap (a0_0)) / 2 ^ (32 - (mx 0 (ji2))).toNat) * 2 ^ (32 - (mx 0 (ji2))).toNat)) % 4294967296, mx 0 (ji2))) = some (r1, r2) := by first | (rw [hji2] at H; exact H) | (simp only [hji2] at H ⊢; exact H)
 (try (have hji2h : ji2 ≤ 32 := by (rw [← hji2]; unfold mn; (repeat' split) <;> omega)))
 (try (have hji2g : ji2 ≤ 64 := by omega))
 have hji2_ : (if 32 < a0_1 then 32 else a0_1) = ji2 := hji2
 obtain ⟨ji3, hji3⟩ : ∃ j_ : Int, (mx 0 (ji2)) = j_ := ⟨_, rfl⟩
 replace H : (some ((IntKind.u64.wrap (((IntKind.u64.wrap (a0_0)) / 2 ^ (32 - (ji3)).toNat) * 2 ^ (32 - (ji3)).toNat)) % 4294967296, ji3)) = some (r1, r2) := by first | (rw [hji3] at H; exact H) | (simp only [hji3] at H ⊢; exact H)
 have hji3_ : (if 0 < (ji2) then (ji2) else 0) = ji3 := hji3
 simp only [Option.some.injEq, Prod.mk.injEq] at H
 obtain ⟨rfl, rfl⟩ := H
 go_enter Try.func86, Try.ntmps86
 go_wp2_with (first | ((with_reducible refine gd_ 1 rfl ?_); refine be_ #[.int .u32 a0_0, .int .i64 a0_1] 48 ?_; intro gb110 hg w4 BK110 hb; have GW110 := ge_ HB hg; have GE110 := ge_ HB hg; replace HB := bs_ HB hb; clear hb hg) | ((with_reducible refine gd_ 2 rfl ?_); refine be_ #[.int .u32 0, .int .i64 0] 48 ?_; intro gb111 hg w5 BK111 hb; have GW111 := ge_ HB hg; have GE111 := ge_ HB hg; have NB110_111 := nl_ BK110 hg; have NB111_110 := ng_ BK110 hg; replace BK110 := bb_ BK110 hb; replace HB := bs_ HB hb; clear hb hg; have hnb6 := NB110_111.out; have hnc6 := NB111_110.out; obtain ⟨hcz7_0, hcz7_1, hfz7_0, hfz7_1⟩ := bc2_ BK110; obtain ⟨hcz8_0, hcz8_1, hfz8_0, hfz8_1⟩ := bc2_ BK111))
 refine bodyPost_ret (results_cell_row rfl _ _ gb111 48 #[.int .u32 ((IntKind.u64.wrap (((IntKind.u64.wrap (a0_0)) / 2 ^ (32 - (ji3)).toNat) * 2 ^ (32 - (ji3)).toNat)) % 4294967296), .int .i64 ji3] (0, 0) _ rfl (ub_ BK111.out) Try.underlying48 rfl (by kernel_rfl)) rfl ?_
 exact ⟨by first | rfl | (simp [errW_none, errW_some] <;> rfl) | (simp only [← hji2, ← hji3]; first | rfl | (simp [errW_none, errW_some] <;> rfl)) | (simp [*, errW_none, errW_some] <;> rfl), by repeat (first | (with_reducible first | exact HB.out | apply blA | apply blN | apply blD | refine bS ?_ GE110.out | refine bS ?_ GE111.out) | exact HB.out)⟩
end Go.Proofs.Ytlkjfjlmjgkheaa.H
