import Derived.Test.YtlkjfjlmjgkheaaHx0
import Derived.Test.YtlkjfjlmjgkheaaHx6
import Derived.Test.YtlkjfjlmjgkheaaHx9
import Derived.Test.YtlkjfjlmjgkheaaHx10
namespace Go.Proofs.Ytlkjfjlmjgkheaa.H
open Go.RowKit Go.Proofs.YtlkjfjlmjgkheaaW.PrintWords Go.Proofs.YtlkjfjlmjgkheaaW.PrintLast Go.Proofs.YtlkjfjlmjgkheaaW.PrintMore
attribute [local go_sem] max2_int min2_int max_two min_two max_three min_three max_four min_four
set_option linter.unusedVariables false
set_option linter.unusedSimpArgs false
def pat_Match.j0 : Nat → List Int → Bool → Int → List (S66) → List (S25) → Option (Bool)
 | 0, _, _, _, _, _ => none
 | k + 1, x1, x13, x153000, x153001, x153002 => if x13 = true then (some false) else ((pat_places_put.f 0 0 0 0 0).bind fun bt155 => ((pat_ends.f k x153000 x153001 x153002 x1 bt155.1 bt155.2.1 bt155.2.2.1 bt155.2.2.2).bind fun bt159 => ((pat_places_has.f bt159.1 bt159.2.1 bt159.2.2.1 bt159.2.2.2 (x1.length : Int)).bind fun t163 => (some t163))))
def pat_Match.f (k : Nat) (a0_0 : Int) (l0_1 : List (S66)) (l0_2 : List (S25)) (l1 : List Int) : Option (Bool) := (pat_Right.f k a0_0 l0_1 l0_2).bind fun t153 => (if t153 = true then (pat_Match.j0 k l1 (decide ((l1.length : Int) > 255)) a0_0 l0_1 l0_2) else (pat_Match.j0 k l1 true a0_0 l0_1 l0_2))
theorem pat_Match.mono_l : ∀ k, (∀ y0 y1 y2 y3 y4, LeO (pat_Match.j0 k y0 y1 y2 y3 y4) (pat_Match.j0 (k + 1) y0 y1 y2 y3 y4))
 | 0 => fun _ _ _ _ _ r h => by simp [pat_Match.j0] at h
 | k + 1 => by
  have ih0 := pat_Match.mono_l k
  · intro y0 y1 y2 y3 y4
    unfold pat_Match.j0
    repeat' first
    | (with_reducible exact ih0 _ _ _ _ _)
    | (with_reducible exact pat_Right.mono _ _ _ _)
    | (with_reducible exact pat_ends.mono _ _ _ _ _ _ _ _ _)
    | (with_reducible exact LeO.refl _)
    | (with_reducible exact LeO.none _)
    | (with_reducible refine LeO.ite ?_ ?_)
    | (with_reducible refine LeO.bind ?_ (fun _ => ?_))
    | exact ih0 _ _ _ _ _
    | exact pat_Right.mono _ _ _ _
    | exact pat_ends.mono _ _ _ _ _ _ _ _ _
    | exact LeO.none _
    | refine LeO.ite ?_ ?_
    | refine LeO.bind ?_ (fun _ => ?_)
theorem pat_Match.mono : ∀ a0 a1 a2 a3 k, LeO (pat_Match.f k a0 a1 a2 a3) (pat_Match.f (k + 1) a0 a1 a2 a3) := by
 intro a0 a1 a2 a3 k
 have ih0 := pat_Match.mono_l k
 unfold pat_Match.f
 repeat' first
  | (with_reducible exact ih0 _ _ _ _ _)
  | (with_reducible exact pat_Right.mono _ _ _ _)
  | (with_reducible exact pat_ends.mono _ _ _ _ _ _ _ _ _)
  | (with_reducible exact LeO.refl _)
  | (with_reducible exact LeO.none _)
  | (with_reducible refine LeO.ite ?_ ?_)
  | (with_reducible refine LeO.bind ?_ (fun _ => ?_))
  | exact ih0 _ _ _ _ _
  | exact pat_Right.mono _ _ _ _
  | exact pat_ends.mono _ _ _ _ _ _ _ _ _
  | exact LeO.none _
  | refine LeO.ite ?_ ?_
  | refine LeO.bind ?_ (fun _ => ?_)
set_option maxHeartbeats 8000000 in
set_option maxRecDepth 100000 in
theorem pat_Match.calls (k : Nat) (a0_0 : Int) (A0_1 : Option Addr) (c0_1 : Nat) (l0_1 : List (S66)) (A0_2 : Option Addr) (c0_2 : Nat) (l0_2 : List (S25)) (A1 : Option Addr) (c1 : Nat) (l1 : List Int) (r : Bool) (w : World) (hr0_1 : Kd.C k66 w A0_1 l0_1.length l0_1) (hc0_1 : l0_1.length ≤ c0_1) (hr0_2 : Kd.C k25 w A0_2 l0_2.length l0_2) (hc0_2 : l0_2.length ≤ c0_2) (hr1 : Kd.C (Kd.int .u32) w A1 l1.length l1) (hc1 : l1.length ≤ c1) (h : pat_Match.f k a0_0 l0_1 l0_2 l1 = some r) :
 Calls Try.prog 18 #[.agg #[.int .i64 a0_0, .slice A0_1 l0_1.length c0_1, .slice A0_2 l0_2.length c0_2], .slice A1 l1.length c1] w fun e w' => e = .returned (.bool r) ∧ Below w.heap.size w w' := by
 have hu25 := Try.underlying25
 have hu71 := Try.underlying71
 have HR0_1 := aM hr0_1
 have HC0_1 := aM hc0_1
 clear hr0_1 hc0_1
 have HR0_2 := aM hr0_2
 have HC0_2 := aM hc0_2
 clear hr0_2 hc0_2
 have HR1 := aM hr1
 have HC1 := aM hc1
 clear hr1 hc1
 have HB := aM (Below.refl w.heap.size w)
 have H : ((pat_Right.f k a0_0 l0_1 l0_2).bind fun t153 => (if t153 = true then (pat_Match.j0 k l1 (decide ((l1.length : Int) > 255)) a0_0 l0_1 l0_2) else (pat_Match.j0 k l1 true a0_0 l0_1 l0_2))) = some r := h
 clear h
 have HC3 := aM H
 clear H
 go_enter Try.func18, Try.ntmps18
 go_upto_region 1 with (first | ((with_reducible refine gd_ 2 rfl ?_); (try (refine gate_guard (by rfl) ?_; dsimp only)); refine be_ #[.int .i64 a0_0, .slice A0_1 l0_1.length c0_1, .slice A0_2 l0_2.length c0_2] 25 ?_; intro gb152 hg w4 BK152 hb; have GW152 := ge_ HB hg; have GE152 := ge_ HB hg; replace HB := bs_ HB hb; clear hb hg))
 (try simp only [Act.put, sT, sZ, sS])
 go_cut [13] (fun v13 wc => ∃ (kq : Nat) (x13_2 : Bool), v13 = .bool x13_2 ∧ Aside0 (pat_Match.j0 kq l1 x13_2 a0_0 l0_1 l0_2 = some r) ∧ Aside0 (kq ≤ k) ∧ Aside0 (wc.heap[gb152]? = some (.cells #[.int .i64 a0_0, (.slice A0_1 l0_1.length c0_1), (.slice A0_2 l0_2.length c0_2)] 25 (0, 0))) ∧ Aside0 (Below w.heap.size w wc))
 case first =>
  have H := HC3.out
  clear HC3
  obtain ⟨t153, A5, H⟩ := bnd_ H
  by_cases c6 : t153 = true
  · subst c6
    rw [if_pos rfl] at H
    have H' := aM H
    clear H
    obtain ⟨hcz7_0, hcz7_1, hcz7_2, hfz7_0, hfz7_1, hfz7_2⟩ := bc3_ BK152
    go_wp2_with (first | ((with_reducible refine gf_ 16 rfl ?_); refine gL_ (some 7) rfl rfl Try.func16 #[.agg #[.int .i64 a0_0, .slice A0_1 l0_1.length c0_1, .slice A0_2 l0_2.length c0_2]] rfl ?_; (with_reducible refine (pat_Right.calls k a0_0 _ _ l0_1 _ _ l0_2 true _ ?side1 ?side2 ?side3 ?side4 A5.out).mono ?_); (case side1 => exact cB_ HR0_1 HB); (case side2 => exact HC0_1.out); (case side3 => exact cB_ HR0_2 HB); (case side4 => exact HC0_2.out); rintro e w8 ⟨rfl, hb⟩; refine ⟨_, rfl, ?_⟩; replace BK152 := bb_ BK152 hb; replace HB := bs_ HB hb; clear hb))
    go_meet
    case rel => exact ⟨_, (decide ((l1.length : Int) > 255)), rf_, H', ⟨by first | omega | exact Nat.le_refl _⟩, ⟨ub_ BK152.out⟩, ⟨bw_ HB.out⟩⟩
  replace c6 := Bool.eq_false_iff.mpr c6
  subst c6
  rw [if_neg (show ¬ (false = true) by decide)] at H
  have H' := aM H
  clear H
  obtain ⟨hcz9_0, hcz9_1, hcz9_2, hfz9_0, hfz9_1, hfz9_2⟩ := bc3_ BK152
  go_wp2_with (first | ((with_reducible refine gf_ 16 rfl ?_); refine gL_ (some 7) rfl rfl Try.func16 #[.agg #[.int .i64 a0_0, .slice A0_1 l0_1.length c0_1, .slice A0_2 l0_2.length c0_2]] rfl ?_; (with_reducible refine (pat_Right.calls k a0_0 _ _ l0_1 _ _ l0_2 false _ ?side1 ?side2 ?side3 ?side4 A5.out).mono ?_); (case side1 => exact cB_ HR0_1 HB); (case side2 => exact HC0_1.out); (case side3 => exact cB_ HR0_2 HB); (case side4 => exact HC0_2.out); rintro e w10 ⟨rfl, hb⟩; refine ⟨_, rfl, ?_⟩; replace BK152 := bb_ BK152 hb; replace HB := bs_ HB hb; clear hb))
  go_meet
  case rel => exact ⟨_, (true), rf_, H', ⟨by first | omega | exact Nat.le_refl _⟩, ⟨ub_ BK152.out⟩, ⟨bw_ HB.out⟩⟩
 case rest =>
  clear HC3
  obtain ⟨kq, x13_2, rfl, HA, HJ2, BK152, HB⟩ := hcut
  cases kq with
  | zero => exact absurd HA.out (by simp [pat_Match.j0])
  | succ kj2 =>
   have H := HA.out
   clear HA
   simp only [pat_Match.j0] at H
   by_cases c11 : x13_2 = true
   · subst c11
     rw [if_pos rfl] at H
     obtain rfl := Option.some.inj H
     go_wp2
     first | go_ret | refine ⟨_, results_tmp rfl _ _ _, ?_⟩
     exact fin_ HB
   replace c11 := Bool.eq_false_iff.mpr c11
   subst c11
   rw [if_neg (show ¬ (false = true) by decide)] at H
   obtain ⟨⟨t155, t156, t157, t158⟩, A12, H⟩ := bnd_ H
   dsimp only at H
   obtain ⟨⟨t159, t160, t161, t162⟩, A13, H⟩ := bnd_ H
   dsimp only at H
   obtain ⟨t163, A14, H⟩ := bnd_ H
   obtain rfl := Option.some.inj H
   go_wp2_with (first | ((with_reducible refine gd_ 5 rfl ?_); (try (refine gate_guard (by rfl) ?_; dsimp only)); refine be_ #[.int .u64 0, .int .u64 0, .int .u64 0, .int .u64 0] 71 ?_; intro gb154 hg w15 BK154 hb; have GW154 := ge_ HB hg; have GE154 := ge_ HB hg; have NB152_154 := nl_ BK152 hg; have NB154_152 := ng_ BK152 hg; replace BK152 := bb_ BK152 hb; replace HB := bs_ HB hb; clear hb hg) | ((with_reducible refine gf_ 45 rfl ?_); refine gL_ (some 14) rfl rfl Try.func45 #[.pointer (some ⟨gb154, 0, none⟩), .int .i64 0] rfl ?_; (with_reducible refine (pat_places_put.calls gb154 0 0 0 0 0 t155 t156 t157 t158 w _ ?side1 ?side2 A12.out).mono ?_); (case side1 => exact ⟨(ub_ BK154.out), GW154.out⟩); (case side2 => repeat (first | (with_reducible first | exact HB.out | apply blA | apply blN | apply blD | refine bS ?_ GE152.out | refine bS ?_ GE154.out) | exact HB.out)); rintro e w16 ⟨rfl, hi, hb, hk⟩; refine ⟨_, rfl, ?_⟩; replace BK152 := aM (KeepBut.blk hk (g' := gb152) (o := .cells #[.int .i64 a0_0, .slice A0_1 l0_1.length c0_1, .slice A0_2 l0_2.length c0_2] 25 (0, 0)) (ub_ BK152.out) NB152_154.out (by simp)); replace BK154 := aM (hi.1); replace HB := aM hb; (try clear hb); (try clear hb2); (try clear hk); (try clear hi); have hnb17 := NB152_154.out; have hnc17 := NB154_152.out; obtain ⟨hcz18_0, hcz18_1, hcz18_2, hfz18_0, hfz18_1, hfz18_2⟩ := bc3_ BK152; obtain ⟨hcz19_0, hcz19_1, hcz19_2, hcz19_3, hfz19_0, hfz19_1, hfz19_2, hfz19_3⟩ := bc4_ BK154) | ((with_reducible refine gf_ 46 rfl ?_); refine gL_ (some 18) rfl rfl Try.func46 #[.agg #[.int .i64 a0_0, .slice A0_1 l0_1.length c0_1, .slice A0_2 l0_2.length c0_2], .slice A1 l1.length c1, .agg #[.int .u64 t155, .int .u64 t156, .int .u64 t157, .int .u64 t158]] rfl ?_; (with_reducible refine (pat_ends.calls kj2 a0_0 _ _ l0_1 _ _ l0_2 _ _ l1 t155 t156 t157 t158 t159 t160 t161 t162 _ ?side1 ?side2 ?side3 ?side4 ?side5 ?side6 A13.out).mono ?_); (case side1 => exact cB_ HR0_1 HB); (case side2 => exact HC0_1.out); (case side3 => exact cB_ HR0_2 HB); (case side4 => exact HC0_2.out); (case side5 => exact cB_ HR1 HB); (case side6 => exact HC1.out); rintro e w20 ⟨rfl, hb⟩; refine ⟨_, rfl, ?_⟩; replace BK152 := bb_ BK152 hb; replace BK154 := bb_ BK154 hb; replace HB := bs_ HB hb; clear hb) | ((with_reducible refine gf_ 47 rfl ?_); refine gL_ (some 21) rfl rfl Try.func47 #[.agg #[.int .u64 t159, .int .u64 t160, .int .u64 t161, .int .u64 t162], .int .i64 (l1.length : Int)] rfl ?_; (with_reducible refine (pat_places_has.calls t159 t160 t161 t162 (l1.length : Int) t163 _ A14.out).mono ?_); rintro e w21 ⟨rfl, hb⟩; refine ⟨_, rfl, ?_⟩; replace BK152 := bb_ BK152 hb; replace BK154 := bb_ BK154 hb; replace HB := bs_ HB hb; clear hb))
   first | go_ret | refine ⟨_, results_tmp rfl _ _ _, ?_⟩
   exact fin_ HB
def FnK (P : Program) (g : Nat) (lb : Array Value) (p : Nat → Bool) (n : Nat) (w : World) : Prop :=
 ∀ i, i < n → ∀ (W : World), Below w.heap.size w W → Calls P g (#[.int .i64 (i : Int)] ++ lb) W fun e w' => e = .returned (.bool (p i)) ∧ Below w.heap.size w w'
def firstP (p d : Nat → Bool) : Nat → Nat → Bool
 | 0, _ => false
 | m + 1, i => if p i then !d i else firstP p d m (i + 1)
set_option maxHeartbeats 4000000 in
set_option maxRecDepth 100000 in
theorem first_calls {p d : Nat → Bool} {g1 g2 : Nat} {lb1 lb2 : Array Value} (eg1 : ∀ args w, (callFunc g1 args).run Try.prog w = .ok (.enter g1 args) w) (eg2 : ∀ args w, (callFunc g2 args).run Try.prog w = .ok (.enter g2 args) w) {n : Nat} (hn : n ≤ 9223372036854775807) {w : World}
 (hp : FnK Try.prog g1 lb1 p n w) (hd : FnK Try.prog g2 lb2 d n w) :
 Calls Try.prog 70 #[.int .i64 (n : Int), .func (.func g1) #[] lb1, .func (.func g2) #[] lb2] w fun e w' => e = .returned (.bool (firstP p d n 0)) ∧ Below w.heap.size w w' := by
 have HP := aM hp
 have HD := aM hd
 clear hp hd
 go_enter Try.func70, Try.ntmps70
 go_wp2
 go_loopg [7, 9] n (fun gg _ s9 wr => ∃ kk : Nat, kk ≤ n ∧ n - kk ≤ gg ∧ s9 = .int .i64 kk ∧ Aside0 (Below w.heap.size w wr) ∧ Aside0 (firstP p d n 0 = firstP p d (n - kk) kk))
 case atStart => exact ⟨0, Nat.zero_le _, by omega, rfl, ⟨Below.refl _ w⟩, ⟨rfl⟩⟩
 case round =>
  obtain ⟨kk, hkk, hg, rfl, BW, HA⟩ := hrel
  by_cases hlt : kk < n
  · have hltz : (kk : Int) < (n : Int) := by omega
    have hdn : n - kk = (n - (kk + 1)) + 1 := by omega
    have hcall := HP.out kk hlt wr BW.out
    cases hq : p kk with
    | true =>
     rw [hq] at hcall
     have hcall2 := fun w' h => HD.out kk hlt w' h
     generalize hdk : d kk = dk at hcall2
     go_wp2_with (first | ((with_reducible refine hcall.mono ?_); rintro e w' ⟨rfl, hb'⟩) | ((with_reducible refine (hcall2 _ hb').mono ?_); rintro e w' ⟨rfl, hb2⟩))
     go_ret
     refine ⟨?_, hb2⟩
     rw [HA.out, hdn, firstP, if_pos hq, hdk]
     rfl
    | false =>
     rw [hq] at hcall
     go_wp2_with ((with_reducible refine hcall.mono ?_); rintro e w' ⟨rfl, hb'⟩)
     go_roundg (n - (kk + 1))
     case measure => omega
     case rel => exact ⟨kk + 1, by omega, by omega, by go_num, ⟨hb'⟩, ⟨by rw [HA.out, hdn, firstP, if_neg (by simp [hq])]⟩⟩
  · have hltz : ¬ (kk : Int) < (n : Int) := by omega
    have : kk = n := by omega
    subst this
    go_wp2
    go_ret
    refine ⟨?_, BW.out⟩
    rw [HA.out, Nat.sub_self]
    rfl
def patIn (k : Nat) (path : List Int) (x : S61) : Option Bool := pat_Match.f k x.f1.f0 x.f1.f1 x.f1.f2 path
def TP.T : Bool × List (List Nat × List Nat) := (true, [([], []), ([], []), ([0, 1], [0, 1]), ([2], [2]), ([3], [3]), ([], []), ([4, 5], [4, 5]), ([6, 6, 0, 1, 2, 3, 4, 5, 6], [6])])
def TP.B : List Nat := [0, 0, 3, 7, 15, 0, 63, 127]
theorem TP.tab : rtab .any (opsOf Try.f71 1) = TP.T := by kernel_rfl
theorem TP.bits : waitsOk TP.T.2 TP.B = true := by kernel_rfl
set_option maxHeartbeats 8000000 in
set_option maxRecDepth 100000 in
theorem TakesPath_1 (k : Nat) (bl bc i : Nat) (A0 : Option Addr) (c0 : Nat) (l0 : List S61) (A1 : Option Addr) (c1 : Nat) (l1 : List Int) (r : Bool) (hi : i < l0.length) (W : World) (hb : W.cell? ⟨bl, 0, none⟩ = some (.slice A0 l0.length c0)) (hc : W.cell? ⟨bc, 0, none⟩ = some (.slice A1 l1.length c1)) (hr0 : Kd.C k61 W A0 l0.length l0) (hr1 : Kd.C (Kd.int .u32) W A1 l1.length l1) (hc1 : l1.length ≤ c1) (h : patIn k l1 (rd_T61 l0 (i : Int)) = some r) :
 Calls Try.prog 71 #[.int .i64 (i : Int), .pointer (some ⟨bl, 0, none⟩), .pointer (some ⟨bc, 0, none⟩)] W fun e w' => e = .returned (.bool r) ∧ Below W.heap.size W w' := by
 have hu1 := Try.underlying61
 have hu2 := Try.underlying25
 have hm := hr0.2.1
 obtain ⟨ad, A2, c2, A3, c3, e, hx0, hx1, hx2, hx3, l2, g2, l3, g3⟩ := at_T61 hr0 (i : Int) (by omega) (by omega)
 subst e
 simp only [Int.toNat_natCast] at hx0 hx1 hx2 hx3
 have hltz : (i : Int) < (l0.length : Int) := by omega
 generalize rd_T61 l0 (i : Int) = x at h hx0 hx1 hx2 hx3 l2 g2 l3 g3
 have BD : Below W.heap.size W W.drew := below_drew1 (Below.refl _ _)
 have H := aM (fun W' (hb' : Below W.heap.size W W') => pat_Match.calls k x.f1.f0 A2 c2 x.f1.f1 A3 c3 x.f1.f2 A1 c1 l1 r W' (Kd.C_below g2 hb') l2 (Kd.C_below g3 hb') l3 (Kd.C_below hr1 hb') hc1 h)
 have HB := aM BD
 have Hb := aM ((BD.cell (World.block_lt_of_cell? W _ hb)).trans hb)
 have Hc := aM ((BD.cell (World.block_lt_of_cell? W _ hc)).trans hc)
 have H1 := aM ((BD.cell (World.block_lt_of_cell? W _ hx1)).trans hx1)
 have H2 := aM ((BD.cell (World.block_lt_of_cell? W _ hx2)).trans hx2)
 have H3 := aM ((BD.cell (World.block_lt_of_cell? W _ hx3)).trans hx3)
 clear BD hr0 hr1 g2 g3 h hx0
 go_enter Try.func71, Try.ntmps71
 try go_wp2
 refine start_ (n := 8) (S := fun w' => w'.cell? ⟨bl, 0, none⟩ = some (.slice (some ad) l0.length c0) ∧ w'.cell? ⟨bc, 0, none⟩ = some (.slice A1 l1.length c1) ∧ w'.cell? ⟨(ad.add (i * 4)).block, (ad.add (i * 4)).off + 1, none⟩ = some (.int .i64 x.f1.f0) ∧ w'.cell? ⟨(ad.add (i * 4)).block, (ad.add (i * 4)).off + 2, none⟩ = some (.slice A2 x.f1.f1.length c2) ∧ w'.cell? ⟨(ad.add (i * 4)).block, (ad.add (i * 4)).off + 3, none⟩ = some (.slice A3 x.f1.f2.length c3)) (ds := []) (tf 0 8) (by kernel_rfl) rfl rfl ⟨Hb.out, Hc.out, H1.out, H2.out, H3.out⟩ (fun hHeld => ?_); refine with_tabW TP.tab TP.bits (fun HT_ HW_ => ?_)
 generalize W.drew = w8 at HB Hb Hc H1 H2 H3 hHeld ⊢
 refine pT_ 0 (some 5) hHeld ?_
 refine pA_ 1 (some 6) ?_
 refine pA_ 2 (some 7) ?_
 refine pA_ 3 (some 8) ?_
 refine pT_ 4 (some 9) hHeld ?_
 refine pT_ 5 (some 10) hHeld ?_
 refine pO_ 6 (some 11) (fun K hK => ?_)
 refine gO_ Try.func18 #[.agg #[.int .i64 x.f1.f0, .slice A2 x.f1.f1.length c2, .slice A3 x.f1.f2.length c3], .slice A1 l1.length c1] rfl rfl ?_
 with_reducible refine (H.out _ HB.out).mono ?_
 rintro e w9 ⟨rfl, hb9⟩
 refine ⟨_, rfl, ?_⟩
 have hBn : Below W.heap.size W w9 := below_step HB.out hb9
 refine hK.out _ _ ⟨(hb9.cell (World.block_lt_of_cell? _ _ Hb.out)).trans Hb.out, (hb9.cell (World.block_lt_of_cell? _ _ Hc.out)).trans Hc.out, (hb9.cell (World.block_lt_of_cell? _ _ H1.out)).trans H1.out, (hb9.cell (World.block_lt_of_cell? _ _ H2.out)).trans H2.out, (hb9.cell (World.block_lt_of_cell? _ _ H3.out)).trans H3.out⟩ (fun hHeld => ?_)
 clear hK K
 refine nO_ (some 11) ?_
 refine pA_ 7 (some 4) ?_
 refine done_ (done_of HT_.out (by kernel_rfl)) ?_
 try go_wp2
 first | go_ret | refine ⟨_, results_tmp rfl _ _ _, ?_⟩
 exact ⟨rfl, hBn⟩
set_option maxHeartbeats 2000000 in
set_option maxRecDepth 100000 in
theorem TakesPath_2 (bl i : Nat) (A0 : Option Addr) (c0 : Nat) (l0 : List S61) (hi : i < l0.length) (W : World) (hb : W.cell? ⟨bl, 0, none⟩ = some (.slice A0 l0.length c0)) (hr0 : Kd.C k61 W A0 l0.length l0) :
 Calls Try.prog 72 #[.int .i64 (i : Int), .pointer (some ⟨bl, 0, none⟩)] W fun e w' => e = .returned (.bool (rd_T61 l0 (i : Int)).f0) ∧ Below W.heap.size W w' := by
 have hu1 := Try.underlying61
 have hm := hr0.2.1
 obtain ⟨ad, A2, c2, A3, c3, e, hx0, hx1, hx2, hx3, l2, g2, l3, g3⟩ := at_T61 hr0 (i : Int) (by omega) (by omega)
 subst e
 simp only [Int.toNat_natCast] at hx0 hx1
 have hltz : (i : Int) < (l0.length : Int) := by omega
 generalize rd_T61 l0 (i : Int) = x at hx0 hx1 hx2 hx3 l2 g2 l3 g3 ⊢
 clear hr0 g2 g3 hx1 hx2 hx3
 go_enter Try.func72, Try.ntmps72
 go_wp2
 go_ret
 exact ⟨rfl, Below.refl _ _⟩
def cond_TakesPath.f (k : Nat) (l0 : List S61) (l1 : List Int) : Option Bool := if allS (patIn k l1) l0 = true then some (firstP (fun i => (patIn k l1 (rd_T61 l0 (i : Int))).getD false) (fun i => (rd_T61 l0 (i : Int)).f0) l0.length 0) else none
theorem firstP_congr {p q d : Nat → Bool} {N : Nat} (h : ∀ i, i < N → p i = q i) : ∀ m i, i + m = N → firstP p d m i = firstP q d m i := by
 intro m
 induction m with
 | zero => intro i _; rfl
 | succ m ih => intro i hi; rw [firstP, firstP, h i (by omega), ih (i + 1) (by omega)]
theorem rd_mem_path (l0 : List S61) (i : Nat) (hi : i < l0.length) : rd_T61 l0 (i : Int) ∈ l0 := by
 have : rd_T61 l0 (i : Int) = l0[i] := by simp [rd_T61, List.getD_eq_getElem?_getD, List.getElem?_eq_getElem hi]
 rw [this]; exact List.getElem_mem hi
theorem cond_TakesPath.mono : ∀ a0 a1 k, LeO (cond_TakesPath.f k a0 a1) (cond_TakesPath.f (k + 1) a0 a1) := by
 intro l0 l1 k r h
 unfold cond_TakesPath.f at h ⊢
 by_cases ha : allS (patIn k l1) l0 = true
 · rw [if_pos ha] at h
   have up : ∀ x ∈ l0, patIn (k + 1) l1 x = some ((patIn k l1 x).getD false) := fun x hx => pat_Match.mono _ _ _ _ k _ (allS_get ha hx)
   have ha2 : allS (patIn (k + 1) l1) l0 = true := List.all_eq_true.2 (fun x hx => by rw [up x hx]; rfl)
   rw [if_pos ha2, ← h]
   congr 1
   exact firstP_congr (N := l0.length) (fun i hi => by rw [up _ (rd_mem_path l0 i hi)]; rfl) _ _ (by omega)
 · rw [if_neg ha] at h; cases h
set_option maxHeartbeats 4000000 in
set_option maxRecDepth 100000 in
theorem cond_TakesPath.calls (k : Nat) (A0 : Option Addr) (c0 : Nat) (l0 : List S61) (A1 : Option Addr) (c1 : Nat) (l1 : List Int) (r : Bool) (w : World) (hr0 : Kd.C k61 w A0 l0.length l0) (hc0 : l0.length ≤ c0) (hr1 : Kd.C (Kd.int .u32) w A1 l1.length l1) (hc1 : l1.length ≤ c1) (h : cond_TakesPath.f k l0 l1 = some r) :
 Calls Try.prog 38 #[.slice A0 l0.length c0, .slice A1 l1.length c1] w fun e w' => e = .returned (.bool r) ∧ Below w.heap.size w w' := by
 unfold cond_TakesPath.f at h
 by_cases ha : allS (patIn k l1) l0 = true
 · rw [if_pos ha] at h
   have h := Option.some.inj h
   have hm := hr0.2.1
   have hB : Below w.heap.size w ((w.alloc (.cells #[.slice A0 l0.length c0] 43)).alloc (.cells #[.slice A1 l1.length c1] 26)) := below_alloc (below_alloc (Below.refl _ _) _) _
   have hc0' : ((w.alloc (.cells #[.slice A0 l0.length c0] 43)).alloc (.cells #[.slice A1 l1.length c1] 26)).cell? ⟨w.heap.size, 0, none⟩ = some (.slice A0 l0.length c0) := by simp
   have hc1' : ((w.alloc (.cells #[.slice A0 l0.length c0] 43)).alloc (.cells #[.slice A1 l1.length c1] 26)).cell? ⟨w.heap.size + 1, 0, none⟩ = some (.slice A1 l1.length c1) := by simp
   have hp : FnK Try.prog 71 #[.pointer (some ⟨w.heap.size, 0, none⟩), .pointer (some ⟨w.heap.size + 1, 0, none⟩)] (fun i => (patIn k l1 (rd_T61 l0 (i : Int))).getD false) l0.length ((w.alloc (.cells #[.slice A0 l0.length c0] 43)).alloc (.cells #[.slice A1 l1.length c1] 26)) := by
    intro i hi W hb
    refine (TakesPath_1 k w.heap.size (w.heap.size + 1) i A0 c0 l0 A1 c1 l1 _ hi W ((hb.cell (World.block_lt_of_cell? _ _ hc0')).trans hc0') ((hb.cell (World.block_lt_of_cell? _ _ hc1')).trans hc1') (Kd.C_below (Kd.C_below hr0 hB) hb) (Kd.C_below (Kd.C_below hr1 hB) hb) hc1 (allS_get ha (rd_mem_path l0 i hi))).mono ?_
    rintro e w' ⟨he, hb2⟩
    exact ⟨he, below_then hb hb.size hb2⟩
   have hd : FnK Try.prog 72 #[.pointer (some ⟨w.heap.size, 0, none⟩)] (fun i => (rd_T61 l0 (i : Int)).f0) l0.length ((w.alloc (.cells #[.slice A0 l0.length c0] 43)).alloc (.cells #[.slice A1 l1.length c1] 26)) := by
    intro i hi W hb
    refine (TakesPath_2 w.heap.size i A0 c0 l0 hi W ((hb.cell (World.block_lt_of_cell? _ _ hc0')).trans hc0') (Kd.C_below (Kd.C_below hr0 hB) hb)).mono ?_
    rintro e w' ⟨he, hb2⟩
    exact ⟨he, below_then hb hb.size hb2⟩
   have H := aM (first_calls (fun args w => enters_ Try.func71 (by kernel_rfl) rfl args w) (fun args w => enters_ Try.func72 (by kernel_rfl) rfl args w) (by omega) hp hd)
   clear hp hd hr0 hr1 ha hc0' hc1' hB
   generalize firstP (fun i => (patIn k l1 (rd_T61 l0 (i : Int))).getD false) (fun i => (rd_T61 l0 (i : Int)).f0) l0.length 0 = i at H h
   subst h
   go_enter Try.func38, Try.ntmps38
   go_wp2_with ((with_reducible refine H.out.mono ?_); rintro e w' ⟨rfl, hb'⟩)
   go_ret
   exact ⟨rfl, below_step (below_alloc (below_alloc (Below.refl _ _) _) _) hb'⟩
 · rw [if_neg ha] at h; cases h
set_option maxHeartbeats 2000000 in
set_option maxRecDepth 100000 in
theorem idxf_93 {p : S76 → Bool} {g : Nat} {lb : Array Value} (eg : ∀ args w, (callFunc g args).run Try.prog w = .ok (.enter g args) w) {A : Option Addr} {c : Nat} {xs : List S76} {w : World} (hr : Kd.C k76 w A xs.length xs)
 (hp : PredK Try.prog g lb k76 aggV p w xs) :
 Calls Try.prog 93 #[.slice A xs.length c, .func (.func g) #[] lb] w fun e w' => e = .returned (.int .i64 (idxP p xs 0)) ∧ Below w.heap.size w w' := by
 have hbig := hr.2.1
 have hu76 := Try.underlying76
 have HR := aM hr
 have HP := aM hp
 clear hr hp
 go_enter Try.func93, Try.ntmps93
 go_wp2
 go_loopg [5, 8] xs.length (fun gg _ s8 wr => ∃ kk : Nat, kk ≤ xs.length ∧ xs.length - kk ≤ gg ∧ s8 = .int .i64 kk ∧ Aside0 (Below w.heap.size w wr) ∧ Aside0 (idxP p xs 0 = idxP p (xs.drop kk) kk))
 case atStart => exact ⟨0, Nat.zero_le _, by omega, rfl, ⟨Below.refl _ w⟩, ⟨rfl⟩⟩
 case round =>
  obtain ⟨kk, hkk, hg, rfl, BW, HA⟩ := hrel
  by_cases hlt : kk < xs.length
  · have hltz : (kk : Int) < (xs.length : Int) := by omega
    have hd : xs.drop kk = (rd_T76 xs kk) :: xs.drop (kk + 1) := by
     rw [List.drop_eq_getElem_cons hlt]
     congr 1
     simp [rd_T76, List.getD_eq_getElem?_getD, List.getElem?_eq_getElem hlt]
    obtain ⟨ad, e, hx0, hx1⟩ := at_T76 HR.out (kk : Int) (by omega) (by omega)
    subst e
    simp only [Int.toNat_natCast] at hx0 hx1
    have hcall := HP.out (rd_T76 xs kk) (by simp [rd_T76, List.getD_eq_getElem?_getD, List.getElem?_eq_getElem hlt]) wr _ BW.out (k76.K_below BW.out (k76_mk w (rd_T76 xs kk) ))
    unfold aggV at hcall
    replace hx0 := (BW.out.cell (World.block_lt_of_cell? w _ hx0)).trans hx0
    replace hx1 := (BW.out.cell (World.block_lt_of_cell? w _ hx1)).trans hx1
    cases hq : p (rd_T76 xs kk) with
    | true =>
     rw [hq] at hcall
     go_wp2_with ((with_reducible refine hcall.mono ?_); rintro e w' ⟨rfl, hb'⟩)
     go_ret
     refine ⟨?_, hb'⟩
     rw [HA.out, hd, idxP, if_pos hq]
     rfl
    | false =>
     rw [hq] at hcall
     go_wp2_with ((with_reducible refine hcall.mono ?_); rintro e w' ⟨rfl, hb'⟩)
     go_roundg (xs.length - (kk + 1))
     case measure => omega
     case rel => exact ⟨kk + 1, by omega, by omega, by go_num, ⟨hb'⟩, ⟨by rw [HA.out, hd, idxP, if_neg (by simp [hq])]⟩⟩
  · have hltz : ¬ (kk : Int) < (xs.length : Int) := by omega
    have : kk = xs.length := by omega
    subst this
    go_wp2
    go_ret
    refine ⟨?_, BW.out⟩
    rw [HA.out, List.drop_length]
    rfl
set_option maxHeartbeats 2000000 in
set_option maxRecDepth 100000 in
theorem conf_74 {p : S76 → Bool} {g : Nat} {lb : Array Value} (eg : ∀ args w, (callFunc g args).run Try.prog w = .ok (.enter g args) w) {A : Option Addr} {c : Nat} {xs : List S76} {w : World} (hr : Kd.C k76 w A xs.length xs)
 (hp : PredK Try.prog g lb k76 aggV p w xs) :
 Calls Try.prog 74 #[.slice A xs.length c, .func (.func g) #[] lb] w fun e w' => e = .returned (.bool (xs.any p)) ∧ Below w.heap.size w w' := by
 have H := idxf_93 eg (c := c) hr hp
 rw [← idxP_lt p xs 0]
 generalize idxP p xs 0 = r at H ⊢
 clear hr hp
 have hH := aM H
 clear H
 go_enter Try.func74, Try.ntmps74
 go_wp2_with ((with_reducible refine hH.out.mono ?_); rintro e w' ⟨rfl, hb'⟩)
 go_ret
 exact ⟨rfl, hb'⟩
set_option maxHeartbeats 2000000 in
set_option maxRecDepth 100000 in
theorem idxf_105 {p : Int → Bool} {g : Nat} {lb : Array Value} (eg : ∀ args w, (callFunc g args).run Try.prog w = .ok (.enter g args) w) {A : Option Addr} {c : Nat} {xs : List Int} {w : World} (hr : Kd.C (Kd.int .u32) w A xs.length xs)
 (hp : PredK Try.prog g lb (Kd.int .u32) oneV p w xs) :
 Calls Try.prog 105 #[.slice A xs.length c, .func (.func g) #[] lb] w fun e w' => e = .returned (.int .i64 (idxP p xs 0)) ∧ Below w.heap.size w w' := by
 have hbig := hr.2.1
 have HR := aM hr
 have HP := aM hp
 clear hr hp
 go_enter Try.func105, Try.ntmps105
 go_wp2
 go_loopg [5, 8] xs.length (fun gg _ s8 wr => ∃ kk : Nat, kk ≤ xs.length ∧ xs.length - kk ≤ gg ∧ s8 = .int .i64 kk ∧ Aside0 (Below w.heap.size w wr) ∧ Aside0 (idxP p xs 0 = idxP p (xs.drop kk) kk))
 case atStart => exact ⟨0, Nat.zero_le _, by omega, rfl, ⟨Below.refl _ w⟩, ⟨rfl⟩⟩
 case round =>
  obtain ⟨kk, hkk, hg, rfl, BW, HA⟩ := hrel
  by_cases hlt : kk < xs.length
  · have hltz : (kk : Int) < (xs.length : Int) := by omega
    have hd : xs.drop kk = (rd xs kk) :: xs.drop (kk + 1) := by
     rw [List.drop_eq_getElem_cons hlt]
     congr 1
     simp [rd, List.getD_eq_getElem?_getD, List.getElem?_eq_getElem hlt]
    obtain ⟨ad, e, hx0⟩ := Kd.at_int HR.out (kk : Int) (by omega) (by omega)
    subst e
    simp only [Int.toNat_natCast] at hx0
    have hcall := HP.out (rd xs kk) (by simp [rd, List.getD_eq_getElem?_getD, List.getElem?_eq_getElem hlt]) wr _ BW.out (show Kd.K (Kd.int .u32) wr (rd xs kk) [.int .u32 (rd xs kk)] from rfl)
    unfold oneV at hcall
    simp only [List.headD_cons] at hcall
    replace hx0 := (BW.out.cell (World.block_lt_of_cell? w _ hx0)).trans hx0
    cases hq : p (rd xs kk) with
    | true =>
     rw [hq] at hcall
     go_wp2_with ((with_reducible refine hcall.mono ?_); rintro e w' ⟨rfl, hb'⟩)
     go_ret
     refine ⟨?_, hb'⟩
     rw [HA.out, hd, idxP, if_pos hq]
     rfl
    | false =>
     rw [hq] at hcall
     go_wp2_with ((with_reducible refine hcall.mono ?_); rintro e w' ⟨rfl, hb'⟩)
     go_roundg (xs.length - (kk + 1))
     case measure => omega
     case rel => exact ⟨kk + 1, by omega, by omega, by go_num, ⟨hb'⟩, ⟨by rw [HA.out, hd, idxP, if_neg (by simp [hq])]⟩⟩
  · have hltz : ¬ (kk : Int) < (xs.length : Int) := by omega
    have : kk = xs.length := by omega
    subst this
    go_wp2
    go_ret
    refine ⟨?_, BW.out⟩
    rw [HA.out, List.drop_length]
    rfl
set_option maxHeartbeats 2000000 in
set_option maxRecDepth 100000 in
theorem conf_94 {p : Int → Bool} {g : Nat} {lb : Array Value} (eg : ∀ args w, (callFunc g args).run Try.prog w = .ok (.enter g args) w) {A : Option Addr} {c : Nat} {xs : List Int} {w : World} (hr : Kd.C (Kd.int .u32) w A xs.length xs)
 (hp : PredK Try.prog g lb (Kd.int .u32) oneV p w xs) :
 Calls Try.prog 94 #[.slice A xs.length c, .func (.func g) #[] lb] w fun e w' => e = .returned (.bool (xs.any p)) ∧ Below w.heap.size w w' := by
 have H := idxf_105 eg (c := c) hr hp
 rw [← idxP_lt p xs 0]
 generalize idxP p xs 0 = r at H ⊢
 clear hr hp
 have hH := aM H
 clear H
 go_enter Try.func94, Try.ntmps94
 go_wp2_with ((with_reducible refine hH.out.mono ?_); rintro e w' ⟨rfl, hb'⟩)
 go_ret
 exact ⟨rfl, hb'⟩
end Go.Proofs.Ytlkjfjlmjgkheaa.H
