import Derived.Test.YtlkjfjlmjgkheaaHx0
import Derived.Test.YtlkjfjlmjgkheaaHx9
import Derived.Test.YtlkjfjlmjgkheaaHx14
import Derived.Test.YtlkjfjlmjgkheaaHx15
import Derived.Test.YtlkjfjlmjgkheaaHx18
import Derived.Test.YtlkjfjlmjgkheaaHx19
import Derived.Test.YtlkjfjlmjgkheaaHx22
import Derived.Test.YtlkjfjlmjgkheaaHx28
import Derived.Test.YtlkjfjlmjgkheaaHx34
namespace Go.Proofs.Ytlkjfjlmjgkheaa.H
open Go.RowKit Go.Proofs.YtlkjfjlmjgkheaaW.PrintWords Go.Proofs.YtlkjfjlmjgkheaaW.PrintLast Go.Proofs.YtlkjfjlmjgkheaaW.PrintMore
attribute [local go_sem] max2_int min2_int max_two min_two max_three min_three max_four min_four
set_option linter.unusedVariables false
set_option linter.unusedSimpArgs false
def dragomanlaw11_CondHolds.j0 : Nat → Bool → Int → List (S83) → List (S61) → List (S64) → Int → Int → Int → Int → List Int → List Int → Int → Int → Int → Int → Option (Bool)
 | 0, _, _, _, _, _, _, _, _, _, _, _, _, _, _, _ => none
 | k + 1, x14, x429000, x429001, x429002, x429003, x429004, x429005, x430000, x430001, x430002, x430003, x430004, x430005, x430006, x430007 => if x14 = true then (some true) else ((dragomanref11_Copy.f k x429000 x429001 x429002 x429003 x429004 x429005).bind fun bt433 => ((r3_Copy.f x430000 x430001 x430002 x430003 x430004 x430005 x430006 x430007).bind fun bt445 => ((cond_Right.f k bt433.1 bt433.2.1 bt433.2.2.1 bt433.2.2.2.1 bt433.2.2.2.2.1 bt433.2.2.2.2.2).bind fun t459 => ((dragomanref11_Right.f k x429000 x429001 x429002 x429003 x429004 x429005).bind fun t460 => (if (t459 == t460) = true then ((cond_Holds.f k bt433.1 bt433.2.1 bt433.2.2.1 bt433.2.2.2.1 bt433.2.2.2.2.1 bt433.2.2.2.2.2 bt445.1 bt445.2.1 bt445.2.2.1 bt445.2.2.2.1 bt445.2.2.2.2.1 bt445.2.2.2.2.2.1 bt445.2.2.2.2.2.2.1 bt445.2.2.2.2.2.2.2).bind fun t461 => ((dragomanref11_Holds.f k x429000 x429001 x429002 x429003 x429004 x429005 x430000 x430001 x430002 x430003 x430004 x430005 x430006 x430007).bind fun t462 => (if (t461 == t462) = true then ((dragomanref11_Same.f k bt433.1 bt433.2.1 bt433.2.2.1 bt433.2.2.2.1 bt433.2.2.2.2.1 bt433.2.2.2.2.2 x429000 x429001 x429002 x429003 x429004 x429005).bind fun t463 => (if t463 = true then ((r3_Cmp.f k bt445.1 bt445.2.1 bt445.2.2.1 bt445.2.2.2.1 bt445.2.2.2.2.1 bt445.2.2.2.2.2.1 bt445.2.2.2.2.2.2.1 bt445.2.2.2.2.2.2.2 x430000 x430001 x430002 x430003 x430004 x430005 x430006 x430007).bind fun t464 => (some (t464 == 0))) else (none))) else (none)))) else (none))))))
def dragomanlaw11_CondHolds.f (k : Nat) (a0_0 : Int) (l0_1 : List (S83)) (l0_2 : List (S61)) (l0_3 : List (S64)) (a0_4 : Int) (a0_5 : Int) (a1_0 : Int) (a1_1 : Int) (l1_2 : List Int) (l1_3 : List Int) (a1_4 : Int) (a1_5 : Int) (a1_6 : Int) (a1_7 : Int) : Option (Bool) := (dragomanlaw11_alive.f k).bind fun t430 => (if t430 = true then ((dragomanref11_Great.f k a0_0 l0_1 l0_2 l0_3 a0_4 a0_5).bind fun t431 => (if t431 = true then (dragomanlaw11_CondHolds.j0 k true a0_0 l0_1 l0_2 l0_3 a0_4 a0_5 a1_0 a1_1 l1_2 l1_3 a1_4 a1_5 a1_6 a1_7) else ((r3_Great.f a1_0 a1_1 l1_2 l1_3 a1_4 a1_5 a1_6 a1_7).bind fun t432 => (dragomanlaw11_CondHolds.j0 k t432 a0_0 l0_1 l0_2 l0_3 a0_4 a0_5 a1_0 a1_1 l1_2 l1_3 a1_4 a1_5 a1_6 a1_7)))) else (none))
def dragomanlaw11_CondHolds.T5 : Bool × List (List Nat × List Nat) := (true, [([], []), ([0], [0]), ([], []), ([2, 1], [2]), ([], []), ([], []), ([4, 1, 3, 0, 1, 4, 5], [1, 4]), ([5, 3, 6, 0, 1, 2, 3, 4, 5, 6], [3, 5])])
def dragomanlaw11_CondHolds.B5 : List Nat := [0, 1, 0, 7, 0, 0, 63, 127]
theorem dragomanlaw11_CondHolds.tab5 : rtab .any (opsOf Try.f8 5) = dragomanlaw11_CondHolds.T5 := by kernel_rfl
theorem dragomanlaw11_CondHolds.bits5 : waitsOk dragomanlaw11_CondHolds.T5.2 dragomanlaw11_CondHolds.B5 = true := by kernel_rfl
def dragomanlaw11_CondHolds.T6 : Bool × List (List Nat × List Nat) := (true, [([], []), ([0], [0]), ([], []), ([2, 1], [2]), ([1, 3], [1, 3]), ([4, 3], [4]), ([5], [5]), ([5], [5]), ([6, 7, 5, 5], [5, 6, 7]), ([5], [5]), ([5], [5]), ([9, 10, 8, 5], [5, 9, 10]), ([8, 11, 5], [5, 8, 11]), ([5, 12], [5, 12]), ([13, 11], [13]), ([14], [14]), ([14], [14]), ([15, 16, 14, 14], [14, 15, 16]), ([14, 17], [14, 17]), ([18, 17], [18]), ([19], [19]), ([19], [19]), ([20, 21, 19, 19], [19, 20, 21]), ([22, 19], [19, 22]), ([19, 23], [19, 23]), ([24, 22, 0, 1, 2, 3, 4, 5, 6, 7, 8, 9, 10, 11, 12, 13, 14, 15, 16, 17, 18, 19, 20, 21, 22, 23, 24], [24])])
def dragomanlaw11_CondHolds.B6 : List Nat := [0, 1, 0, 7, 15, 31, 63, 63, 255, 63, 63, 2047, 4095, 8191, 16383, 32767, 32767, 131071, 262143, 524287, 1048575, 1048575, 4194303, 8388607, 16777215, 33554431]
theorem dragomanlaw11_CondHolds.tab6 : rtab .any (opsOf Try.f8 6) = dragomanlaw11_CondHolds.T6 := by kernel_rfl
theorem dragomanlaw11_CondHolds.bits6 : waitsOk dragomanlaw11_CondHolds.T6.2 dragomanlaw11_CondHolds.B6 = true := by kernel_rfl
set_option maxHeartbeats 8000000 in
set_option maxRecDepth 100000 in
theorem dragomanlaw11_CondHolds.calls (k : Nat) (a0_0 : Int) (A0_1 : Option Addr) (c0_1 : Nat) (l0_1 : List (S83)) (A0_2 : Option Addr) (c0_2 : Nat) (l0_2 : List (S61)) (A0_3 : Option Addr) (c0_3 : Nat) (l0_3 : List (S64)) (a0_4 : Int) (a0_5 : Int) (a1_0 : Int) (a1_1 : Int) (A1_2 : Option Addr) (c1_2 : Nat) (l1_2 : List Int) (A1_3 : Option Addr) (c1_3 : Nat) (l1_3 : List Int) (a1_4 : Int) (a1_5 : Int) (a1_6 : Int) (a1_7 : Int) (r : Bool) (w : World) (hr0_1 : Kd.C k83 w A0_1 l0_1.length l0_1) (hc0_1 : l0_1.length ≤ c0_1) (hr0_2 : Kd.C k61 w A0_2 l0_2.length l0_2) (hc0_2 : l0_2.length ≤ c0_2) (hr0_3 : Kd.C k64 w A0_3 l0_3.length l0_3) (hc0_3 : l0_3.length ≤ c0_3) (hr1_2 : Kd.C (Kd.int .u32) w A1_2 l1_2.length l1_2) (hc1_2 : l1_2.length ≤ c1_2) (hr1_3 : Kd.C (Kd.int .u32) w A1_3 l1_3.length l1_3) (hc1_3 : l1_3.length ≤ c1_3) (h : dragomanlaw11_CondHolds.f k a0_0 l0_1 l0_2 l0_3 a0_4 a0_5 a1_0 a1_1 l1_2 l1_3 a1_4 a1_5 a1_6 a1_7 = some r) :
 Calls Try.prog 8 #[.agg #[.int .i64 a0_0, .slice A0_1 l0_1.length c0_1, .slice A0_2 l0_2.length c0_2, .slice A0_3 l0_3.length c0_3, .int .u32 a0_4, .int .u32 a0_5], .agg #[.int .u32 a1_0, .int .i64 a1_1, .slice A1_2 l1_2.length c1_2, .slice A1_3 l1_3.length c1_3, .int .u32 a1_4, .int .u32 a1_5, .int .i64 a1_6, .int .u32 a1_7]] w fun e w' => e = .returned (.bool r) ∧ Below w.heap.size w w' := by
 have hu46 := Try.underlying46
 have hu50 := Try.underlying50
 have HR0_1 := aM hr0_1
 have HC0_1 := aM hc0_1
 clear hr0_1 hc0_1
 have HR0_2 := aM hr0_2
 have HC0_2 := aM hc0_2
 clear hr0_2 hc0_2
 have HR0_3 := aM hr0_3
 have HC0_3 := aM hc0_3
 clear hr0_3 hc0_3
 have HR1_2 := aM hr1_2
 have HC1_2 := aM hc1_2
 clear hr1_2 hc1_2
 have HR1_3 := aM hr1_3
 have HC1_3 := aM hc1_3
 clear hr1_3 hc1_3
 have HB := aM (Below.refl w.heap.size w)
 have H : ((dragomanlaw11_alive.f k).bind fun t430 => (if t430 = true then ((dragomanref11_Great.f k a0_0 l0_1 l0_2 l0_3 a0_4 a0_5).bind fun t431 => (if t431 = true then (dragomanlaw11_CondHolds.j0 k true a0_0 l0_1 l0_2 l0_3 a0_4 a0_5 a1_0 a1_1 l1_2 l1_3 a1_4 a1_5 a1_6 a1_7) else ((r3_Great.f a1_0 a1_1 l1_2 l1_3 a1_4 a1_5 a1_6 a1_7).bind fun t432 => (dragomanlaw11_CondHolds.j0 k t432 a0_0 l0_1 l0_2 l0_3 a0_4 a0_5 a1_0 a1_1 l1_2 l1_3 a1_4 a1_5 a1_6 a1_7)))) else (none))) = some r := h
 clear h
 obtain ⟨t430, A3, H⟩ := bnd_ H
 by_cases c4 : t430 = true
 rotate_left
 · replace c4 := Bool.eq_false_iff.mpr c4
   subst c4
   rw [if_neg (show ¬ (false = true) by decide)] at H
   exact absurd H (by simp)
 subst c4
 rw [if_pos rfl] at H
 have HC5 := aM H
 clear H
 go_enter Try.func8, Try.ntmps8
 go_upto_region 3 with (first | ((with_reducible refine gd_ 2 rfl ?_); refine be_ #[.int .i64 a0_0, .slice A0_1 l0_1.length c0_1, .slice A0_2 l0_2.length c0_2, .slice A0_3 l0_3.length c0_3, .int .u32 a0_4, .int .u32 a0_5] 46 ?_; intro gb428 hg w6 BK428 hb; have GW428 := ge_ HB hg; have GE428 := ge_ HB hg; replace HB := bs_ HB hb; clear hb hg) | ((with_reducible refine gd_ 3 rfl ?_); refine be_ #[.int .u32 a1_0, .int .i64 a1_1, .slice A1_2 l1_2.length c1_2, .slice A1_3 l1_3.length c1_3, .int .u32 a1_4, .int .u32 a1_5, .int .i64 a1_6, .int .u32 a1_7] 50 ?_; intro gb429 hg w7 BK429 hb; have GW429 := ge_ HB hg; have GE429 := ge_ HB hg; have NB428_429 := nl_ BK428 hg; have NB429_428 := ng_ BK428 hg; replace BK428 := bb_ BK428 hb; replace HB := bs_ HB hb; clear hb hg) | ((with_reducible refine gf_ 27 rfl ?_); refine gL_ (some 7) rfl rfl Try.func27 #[] rfl ?_; (with_reducible refine (dragomanlaw11_alive.calls k  true _ A3.out).mono ?_); rintro e w8 ⟨rfl, hb⟩; refine ⟨_, rfl, ?_⟩; replace BK428 := bb_ BK428 hb; replace BK429 := bb_ BK429 hb; replace HB := bs_ HB hb; clear hb))
 (try simp only [Act.put, sT, sZ, sS])
 go_cut [14] (fun v14 wc => ∃ (kq : Nat) (x14_4 : Bool), v14 = .bool x14_4 ∧ Aside0 (dragomanlaw11_CondHolds.j0 kq x14_4 a0_0 l0_1 l0_2 l0_3 a0_4 a0_5 a1_0 a1_1 l1_2 l1_3 a1_4 a1_5 a1_6 a1_7 = some r) ∧ Aside0 (kq ≤ k) ∧ Aside0 (wc.heap[gb428]? = some (.cells #[.int .i64 a0_0, (.slice A0_1 l0_1.length c0_1), (.slice A0_2 l0_2.length c0_2), (.slice A0_3 l0_3.length c0_3), .int .u32 a0_4, .int .u32 a0_5] 46 (0, 0))) ∧ Aside0 (wc.heap[gb429]? = some (.cells #[.int .u32 a1_0, .int .i64 a1_1, (.slice A1_2 l1_2.length c1_2), (.slice A1_3 l1_3.length c1_3), .int .u32 a1_4, .int .u32 a1_5, .int .i64 a1_6, .int .u32 a1_7] 50 (0, 0))) ∧ Aside0 (Below w.heap.size w wc))
 case first =>
  have H := HC5.out
  clear HC5
  obtain ⟨t431, A9, H⟩ := bnd_ H
  by_cases c10 : t431 = true
  · subst c10
    rw [if_pos rfl] at H
    have H' := aM H
    clear H
    have hnb11 := NB428_429.out
    have hnc11 := NB429_428.out
    obtain ⟨hcz12_0, hcz12_1, hcz12_2, hcz12_3, hcz12_4, hcz12_5, hfz12_0, hfz12_1, hfz12_2, hfz12_3, hfz12_4, hfz12_5⟩ := bc6_ BK428
    go_wp2_with (first | ((with_reducible refine gf_ 28 rfl ?_); refine gL_ (some 10) rfl rfl Try.func28 #[.agg #[.int .i64 a0_0, .slice A0_1 l0_1.length c0_1, .slice A0_2 l0_2.length c0_2, .slice A0_3 l0_3.length c0_3, .int .u32 a0_4, .int .u32 a0_5]] rfl ?_; (with_reducible refine (dragomanref11_Great.calls k a0_0 _ _ l0_1 _ _ l0_2 _ _ l0_3 a0_4 a0_5 true _ ?side1 ?side2 ?side3 ?side4 ?side5 ?side6 A9.out).mono ?_); (case side1 => exact cB_ HR0_1 HB); (case side2 => exact HC0_1.out); (case side3 => exact cB_ HR0_2 HB); (case side4 => exact HC0_2.out); (case side5 => exact cB_ HR0_3 HB); (case side6 => exact HC0_3.out); rintro e w13 ⟨rfl, hb⟩; refine ⟨_, rfl, ?_⟩; replace BK428 := bb_ BK428 hb; replace BK429 := bb_ BK429 hb; replace HB := bs_ HB hb; clear hb))
    go_meet
    case rel => exact ⟨_, (true), rf_, H', ⟨by first | omega | exact Nat.le_refl _⟩, ⟨ub_ BK428.out⟩, ⟨ub_ BK429.out⟩, ⟨bw_ HB.out⟩⟩
  replace c10 := Bool.eq_false_iff.mpr c10
  subst c10
  rw [if_neg (show ¬ (false = true) by decide)] at H
  obtain ⟨t432, A14, H⟩ := bnd_ H
  have H' := aM H
  clear H
  have hnb15 := NB428_429.out
  have hnc15 := NB429_428.out
  obtain ⟨hcz16_0, hcz16_1, hcz16_2, hcz16_3, hcz16_4, hcz16_5, hfz16_0, hfz16_1, hfz16_2, hfz16_3, hfz16_4, hfz16_5⟩ := bc6_ BK428
  go_wp2_with (first | ((with_reducible refine gf_ 28 rfl ?_); refine gL_ (some 10) rfl rfl Try.func28 #[.agg #[.int .i64 a0_0, .slice A0_1 l0_1.length c0_1, .slice A0_2 l0_2.length c0_2, .slice A0_3 l0_3.length c0_3, .int .u32 a0_4, .int .u32 a0_5]] rfl ?_; (with_reducible refine (dragomanref11_Great.calls k a0_0 _ _ l0_1 _ _ l0_2 _ _ l0_3 a0_4 a0_5 false _ ?side1 ?side2 ?side3 ?side4 ?side5 ?side6 A9.out).mono ?_); (case side1 => exact cB_ HR0_1 HB); (case side2 => exact HC0_1.out); (case side3 => exact cB_ HR0_2 HB); (case side4 => exact HC0_2.out); (case side5 => exact cB_ HR0_3 HB); (case side6 => exact HC0_3.out); rintro e w17 ⟨rfl, hb⟩; refine ⟨_, rfl, ?_⟩; replace BK428 := bb_ BK428 hb; replace BK429 := bb_ BK429 hb; replace HB := bs_ HB hb; clear hb; obtain ⟨hcz18_0, hcz18_1, hcz18_2, hcz18_3, hcz18_4, hcz18_5, hcz18_6, hcz18_7, hfz18_0, hfz18_1, hfz18_2, hfz18_3, hfz18_4, hfz18_5, hfz18_6, hfz18_7⟩ := bc8_ BK429) | (go_at_call 29; (with_reducible refine (r3_Great.calls a1_0 a1_1 _ _ l1_2 _ _ l1_3 a1_4 a1_5 a1_6 a1_7 t432 _ ?side1 ?side2 ?side3 ?side4 A14.out).mono ?_); (case side1 => exact cB_ HR1_2 HB); (case side2 => exact HC1_2.out); (case side3 => exact cB_ HR1_3 HB); (case side4 => exact HC1_3.out); rintro e w19 ⟨rfl, hb⟩; replace BK428 := bb_ BK428 hb; replace BK429 := bb_ BK429 hb; replace HB := bs_ HB hb; clear hb))
  go_meet
  case rel => exact ⟨_, (t432), rf_, H', ⟨by first | omega | exact Nat.le_refl _⟩, ⟨ub_ BK428.out⟩, ⟨ub_ BK429.out⟩, ⟨bw_ HB.out⟩⟩
 case rest =>
  clear HC5
  obtain ⟨kq, x14_4, rfl, HA, HJ4, BK428, BK429, HB⟩ := hcut
  cases kq with
  | zero => exact absurd HA.out (by simp [dragomanlaw11_CondHolds.j0])
  | succ kj4 =>
   have H := HA.out
   clear HA
   simp only [dragomanlaw11_CondHolds.j0] at H
   by_cases c20 : x14_4 = true
   · subst c20
     rw [if_pos rfl] at H
     obtain rfl := Option.some.inj H
     go_wp2
     first | go_ret | refine ⟨_, results_tmp rfl _ _ _, ?_⟩
     exact fin_ HB
   replace c20 := Bool.eq_false_iff.mpr c20
   subst c20
   rw [if_neg (show ¬ (false = true) by decide)] at H
   obtain ⟨⟨t433, t434, t437, t440, t443, t444⟩, A21, H⟩ := bnd_ H
   dsimp only at H
   obtain ⟨⟨t445, t446, t447, t450, t453, t454, t455, t456⟩, A22, H⟩ := bnd_ H
   dsimp only at H
   obtain ⟨t459, A23, H⟩ := bnd_ H
   obtain ⟨t460, A24, H⟩ := bnd_ H
   have c25 := ifn_ H
   rw [if_pos c25] at H
   have c25b0 : (t459 == t460) = true := c25
   (try (have c25b1 : decide (t459 = t460) = true := by simpa using c25))
   (try (have c25b2 : (t459 == t460) = true := by simpa using c25))
   clear c25
   obtain ⟨t461, A26, H⟩ := bnd_ H
   obtain ⟨t462, A27, H⟩ := bnd_ H
   have c28 := ifn_ H
   rw [if_pos c28] at H
   have c28b0 : (t461 == t462) = true := c28
   (try (have c28b1 : decide (t461 = t462) = true := by simpa using c28))
   (try (have c28b2 : (t461 == t462) = true := by simpa using c28))
   clear c28
   obtain ⟨t463, A29, H⟩ := bnd_ H
   by_cases c30 : t463 = true
   rotate_left
   · replace c30 := Bool.eq_false_iff.mpr c30
     subst c30
     rw [if_neg (show ¬ (false = true) by decide)] at H
     exact absurd H (by simp)
   subst c30
   rw [if_pos rfl] at H
   obtain ⟨t464, A31, H⟩ := bnd_ H
   obtain rfl := Option.some.inj H
   try go_wp2
   replace BK428 := aM (blk_drew BK428.out)
   replace BK429 := aM (blk_drew BK429.out)
   replace HB := aM (below_drew1 HB.out)
   refine start_ (n := 8) (S := fun w' => True) (ds := []) (tf 0 8) (by kernel_rfl) rfl rfl trivial (fun hHeld => ?_); refine with_tabW dragomanlaw11_CondHolds.tab5 dragomanlaw11_CondHolds.bits5 (fun HT_ HW_ => ?_)
   generalize wc.drew = w32 at BK428 BK429 HB hHeld ⊢
   refine inv_at [0, 1, 2, 3, 4, 5, 6, 7] (fun a0_ b a w' => ∃ (v435 : Value) (v438 : Value) (v441 : Value) (v448 : Value) (v451 : Value) (gb457 : Nat) (gb458 : Nat) (m1_ : Value) (m3_ : Value) (m4_ : Value) (m5_ : Value), a = putSel a0_ b [(0, 15, .agg #[.int .i64 a0_0, .slice A0_1 l0_1.length c0_1, .slice A0_2 l0_2.length c0_2, .slice A0_3 l0_3.length c0_3, .int .u32 a0_4, .int .u32 a0_5]), (1, 16, m1_), (2, 17, .agg #[.int .u32 a1_0, .int .i64 a1_1, .slice A1_2 l1_2.length c1_2, .slice A1_3 l1_3.length c1_3, .int .u32 a1_4, .int .u32 a1_5, .int .i64 a1_6, .int .u32 a1_7]), (3, 18, m3_), (4, 5, m4_), (5, 6, m5_)] ∧ (w'.heap[gb428]? = some (.cells #[.int .i64 a0_0, .slice A0_1 l0_1.length c0_1, .slice A0_2 l0_2.length c0_2, .slice A0_3 l0_3.length c0_3, .int .u32 a0_4, .int .u32 a0_5] 46 (0, 0))) ∧ (w'.heap[gb429]? = some (.cells #[.int .u32 a1_0, .int .i64 a1_1, .slice A1_2 l1_2.length c1_2, .slice A1_3 l1_3.length c1_3, .int .u32 a1_4, .int .u32 a1_5, .int .i64 a1_6, .int .u32 a1_7] 50 (0, 0))) ∧ (Below w.heap.size w w') ∧ (b 4 = true → b 5 = true → gb458 ≠ gb457) ∧ (b 4 = true → b 5 = true → gb457 ≠ gb458) ∧ (b 1 = true → Kd.R k83 83 w' w.heap.size (fun _ => True) v435 t434) ∧ (b 1 = true → Kd.R k61 61 w' w.heap.size (fun _ => True) v438 t437) ∧ (b 1 = true → Kd.S k64 64 w' w.heap.size (fun _ => True) v441 t440) ∧ (b 3 = true → Kd.R (Kd.int .u32) 36 w' w.heap.size (fun _ => True) v448 t447) ∧ (b 3 = true → Kd.R (Kd.int .u32) 36 w' w.heap.size (fun _ => True) v451 t450) ∧ (b 4 = true → b 6 = false → w'.heap[gb457]? = some (.cells #[.int .i64 0, .slice none 0 0, .slice none 0 0, .slice none 0 0, .int .u32 0, .int .u32 0] 46 (0, 0))) ∧ (b 4 = true → w.heap.size ≤ gb457) ∧ (b 4 = true → w.heap.size ≤ gb457) ∧ (b 4 = true → gb428 ≠ gb457) ∧ (b 4 = true → gb457 ≠ gb428) ∧ (b 4 = true → gb429 ≠ gb457) ∧ (b 4 = true → gb457 ≠ gb429) ∧ (b 5 = true → b 7 = false → w'.heap[gb458]? = some (.cells #[.int .u32 0, .int .i64 0, .slice none 0 0, .slice none 0 0, .int .u32 0, .int .u32 0, .int .i64 0, .int .u32 0] 50 (0, 0))) ∧ (b 5 = true → w.heap.size ≤ gb458) ∧ (b 5 = true → w.heap.size ≤ gb458) ∧ (b 5 = true → gb428 ≠ gb458) ∧ (b 5 = true → gb458 ≠ gb428) ∧ (b 5 = true → gb429 ≠ gb458) ∧ (b 5 = true → gb458 ≠ gb429) ∧ (b 6 = true → w'.heap[gb457]? = some (.cells #[.int .i64 t433, v435, v438, v441, .int .u32 t443, .int .u32 t444] 46 (0, 0))) ∧ (b 7 = true → w'.heap[gb458]? = some (.cells #[.int .u32 t445, .int .i64 t446, v448, v451, .int .u32 t453, .int .u32 t454, .int .i64 t455, .int .u32 t456] 50 (0, 0))) ∧ (b 1 = true → (m1_ : Value) = .agg #[.int .i64 t433, v435, v438, v441, .int .u32 t443, .int .u32 t444]) ∧ (b 3 = true → (m3_ : Value) = .agg #[.int .u32 t445, .int .i64 t446, v448, v451, .int .u32 t453, .int .u32 t454, .int .i64 t455, .int .u32 t456]) ∧ (b 4 = true → (m4_ : Value) = .pointer (some ⟨gb457, 0, none⟩)) ∧ (b 5 = true → (m5_ : Value) = .pointer (some ⟨gb458, 0, none⟩))) HT_.out HW_.out (by kernel_rfl) (by kernel_rfl) ?_ ?_ ?_
   · exact ⟨.bool false, .bool false, .bool false, .bool false, .bool false, 0, 0, .bool false, .bool false, .bool false, .bool false, by simp only [putSel, Bool.false_eq_true, if_false], BK428.out, BK429.out, HB.out, fun h_ => absurd h_ (by decide), fun h_ => absurd h_ (by decide), fun h_ => absurd h_ (by decide), fun h_ => absurd h_ (by decide), fun h_ => absurd h_ (by decide), fun h_ => absurd h_ (by decide), fun h_ => absurd h_ (by decide), fun h_ => absurd h_ (by decide), fun h_ => absurd h_ (by decide), fun h_ => absurd h_ (by decide), fun h_ => absurd h_ (by decide), fun h_ => absurd h_ (by decide), fun h_ => absurd h_ (by decide), fun h_ => absurd h_ (by decide), fun h_ => absurd h_ (by decide), fun h_ => absurd h_ (by decide), fun h_ => absurd h_ (by decide), fun h_ => absurd h_ (by decide), fun h_ => absurd h_ (by decide), fun h_ => absurd h_ (by decide), fun h_ => absurd h_ (by decide), fun h_ => absurd h_ (by decide), fun h_ => absurd h_ (by decide), fun h_ => absurd h_ (by decide), fun h_ => absurd h_ (by decide), fun h_ => absurd h_ (by decide), fun h_ => absurd h_ (by decide)⟩
   · skip
     clear BK428 BK429 HB
     refine steps_cons ?_ ?_
     · rintro b a w' ⟨v435, v438, v441, v448, v451, gb457, gb458, m1_, m3_, m4_, m5_, ha, Q_BK428, Q_BK429, Q_HB, Q_NB458_457, Q_NB457_458, Q_HO436, Q_HO439, Q_HO442, Q_HO449, Q_HO452, Q_BK457, Q_GW457, Q_GE457, Q_NB428_457, Q_NB457_428, Q_NB429_457, Q_NB457_429, Q_BK458, Q_GW458, Q_GE458, Q_NB428_458, Q_NB458_428, Q_NB429_458, Q_NB458_429, Q_BK457_e6, Q_BK458_e7, Q_X1_, Q_X3_, Q_X4_, Q_X5_⟩ hb_ hon hoff
       refine ⟨_, rfl, fun K hK => ?_⟩
       have e2 : a.tmps[2]? = some (.pointer (some ⟨gb428, 0, none⟩)) := by rw [ha]; exact (putSel_off rfl).trans rfl
       replace ha := aM ha
       have BK428 := aM Q_BK428
       have BK429 := aM Q_BK429
       have HB := aM Q_HB
       have hc0_ : w'.cell? ⟨gb428, 0, none⟩ = some (.int .i64 a0_0) := (blk_cell BK428.out 0).trans rfl
       have hc1_ : w'.cell? ⟨gb428, 1, none⟩ = some (.slice A0_1 l0_1.length c0_1) := (blk_cell BK428.out 1).trans rfl
       have hc2_ : w'.cell? ⟨gb428, 2, none⟩ = some (.slice A0_2 l0_2.length c0_2) := (blk_cell BK428.out 2).trans rfl
       have hc3_ : w'.cell? ⟨gb428, 3, none⟩ = some (.slice A0_3 l0_3.length c0_3) := (blk_cell BK428.out 3).trans rfl
       have hc4_ : w'.cell? ⟨gb428, 4, none⟩ = some (.int .u32 a0_4) := (blk_cell BK428.out 4).trans rfl
       have hc5_ : w'.cell? ⟨gb428, 5, none⟩ = some (.int .u32 a0_5) := (blk_cell BK428.out 5).trans rfl
       refine value_ (w1 := w') (v := .agg #[.int .i64 a0_0, .slice A0_1 l0_1.length c0_1, .slice A0_2 l0_2.length c0_2, .slice A0_3 l0_3.length c0_3, .int .u32 a0_4, .int .u32 a0_5]) (by rfl) rfl ?_ ?_
       · go_simp
         (try simp only [i64_w])
         try rfl
       refine hK.out _ _ ⟨v435, v438, v441, v448, v451, gb457, gb458, m1_, m3_, m4_, m5_, (by rw [ha.out]; exact putSel_upk 0 hb_ rfl rfl rfl), Q_BK428, Q_BK429, Q_HB, Q_NB458_457, Q_NB457_458, hf_ (hoff 1 (by kernel_rfl)), hf_ (hoff 1 (by kernel_rfl)), hf_ (hoff 1 (by kernel_rfl)), hf_ (hoff 3 (by kernel_rfl)), hf_ (hoff 3 (by kernel_rfl)), Q_BK457, Q_GW457, Q_GE457, Q_NB428_457, Q_NB457_428, Q_NB429_457, Q_NB457_429, Q_BK458, Q_GW458, Q_GE458, Q_NB428_458, Q_NB458_428, Q_NB429_458, Q_NB458_429, hf_ (hoff 6 (by kernel_rfl)), hf_ (hoff 7 (by kernel_rfl)), hf_ (hoff 1 (by kernel_rfl)), hf_ (hoff 3 (by kernel_rfl)), Q_X4_, Q_X5_⟩
     refine steps_cons ?_ ?_
     · rintro b a w' ⟨v435, v438, v441, v448, v451, gb457, gb458, m1_, m3_, m4_, m5_, ha, Q_BK428, Q_BK429, Q_HB, Q_NB458_457, Q_NB457_458, Q_HO436, Q_HO439, Q_HO442, Q_HO449, Q_HO452, Q_BK457, Q_GW457, Q_GE457, Q_NB428_457, Q_NB457_428, Q_NB429_457, Q_NB457_429, Q_BK458, Q_GW458, Q_GE458, Q_NB428_458, Q_NB458_428, Q_NB429_458, Q_NB458_429, Q_BK457_e6, Q_BK458_e7, Q_X1_, Q_X3_, Q_X4_, Q_X5_⟩ hb_ hon hoff
       refine ⟨_, rfl, fun K hK => ?_⟩
       have e15 : a.tmps[15]? = some (.agg #[.int .i64 a0_0, .slice A0_1 l0_1.length c0_1, .slice A0_2 l0_2.length c0_2, .slice A0_3 l0_3.length c0_3, .int .u32 a0_4, .int .u32 a0_5]) := by rw [ha]; exact putSel_on (e := (0, 15, .agg #[.int .i64 a0_0, .slice A0_1 l0_1.length c0_1, .slice A0_2 l0_2.length c0_2, .slice A0_3 l0_3.length c0_3, .int .u32 a0_4, .int .u32 a0_5])) 0 rfl rfl (hon 0 (by kernel_rfl)) rfl
       replace ha := aM ha
       have BK428 := aM Q_BK428
       have BK429 := aM Q_BK429
       have HB := aM Q_HB
       refine goes_ Try.func30 (by kernel_rfl) rfl #[.agg #[.int .i64 a0_0, .slice A0_1 l0_1.length c0_1, .slice A0_2 l0_2.length c0_2, .slice A0_3 l0_3.length c0_3, .int .u32 a0_4, .int .u32 a0_5]] (by rfl) rfl rfl (by first | (simp only [List.map_toArray, List.map_cons, List.map_nil, Act.eval, Array.getD_eq_getD_getElem?, Option.getD_some, e15]; done) | (simp only [List.map_toArray, List.map_cons, List.map_nil, Act.eval, Array.getD_eq_getD_getElem?, Option.getD_some, e15]; rfl)) ?_
       with_reducible refine (dragomanref11_Copy.calls kj4 a0_0 _ _ l0_1 _ _ l0_2 _ _ l0_3 a0_4 a0_5 t433 t434 t437 t440 t443 t444 _ ?side1 ?side2 ?side3 ?side4 ?side5 ?side6 A21.out).mono ?_
       (case side1 => exact cB_ HR0_1 HB)
       (case side2 => exact HC0_1.out)
       (case side3 => exact cB_ HR0_2 HB)
       (case side4 => exact HC0_2.out)
       (case side5 => exact cB_ HR0_3 HB)
       (case side6 => exact HC0_3.out)
       rintro e w33 ⟨v435, v438, v441, rfl, ho0, ho1, ho2, hb⟩
       refine ⟨_, rfl, ?_⟩
       have n0_ := aM (Kd.R_lower ho0 (below_size (bw_ HB.out)))
       have n1_ := aM (Kd.R_lower ho1 (below_size (bw_ HB.out)))
       have n2_ := aM (Kd.S_lower ho2 (below_size (bw_ HB.out)))
       have n3_ := bb_ BK428 hb
       have n4_ := bb_ BK429 hb
       have n5_ := bs_ HB hb
       have z_BK457 := fun (h0_ : b 4 = true) (h1_ : b 6 = false) => (show w33.heap[gb457]? = some (.cells #[.int .i64 0, .slice none 0 0, .slice none 0 0, .slice none 0 0, .int .u32 0, .int .u32 0] 46 (0, 0)) from by first | exact (blk_below (g := gb457) (o := .cells #[.int .i64 0, .slice none 0 0, .slice none 0 0, .slice none 0 0, .int .u32 0, .int .u32 0] 46 (0, 0)) (ub_ ((Q_BK457 h0_ h1_))) hb))
       have z_BK458 := fun (h0_ : b 5 = true) (h1_ : b 7 = false) => (show w33.heap[gb458]? = some (.cells #[.int .u32 0, .int .i64 0, .slice none 0 0, .slice none 0 0, .int .u32 0, .int .u32 0, .int .i64 0, .int .u32 0] 50 (0, 0)) from by first | exact (blk_below (g := gb458) (o := .cells #[.int .u32 0, .int .i64 0, .slice none 0 0, .slice none 0 0, .int .u32 0, .int .u32 0, .int .i64 0, .int .u32 0] 50 (0, 0)) (ub_ ((Q_BK458 h0_ h1_))) hb))
       clear BK428
       clear BK429
       clear HB
       have HO436 := n0_
       have HO439 := n1_
       have HO442 := n2_
       have BK428 := n3_
       have BK429 := n4_
       have HB := n5_
       clear n0_ n1_ n2_ n3_ n4_ n5_
       (try clear hb)
       (try clear hb2)
       (try clear hk)
       (try clear hi)
       (try clear ho0)
       (try clear ho1)
       (try clear ho2)
       refine hK.out _ _ ⟨v435, v438, v441, v448, v451, gb457, gb458, (.agg #[.int .i64 t433, v435, v438, v441, .int .u32 t443, .int .u32 t444]), m3_, m4_, m5_, (by rw [ha.out]; exact putSel_upk 1 hb_ rfl rfl rfl), (ub_ BK428.out), (ub_ BK429.out), (bw_ HB.out), Q_NB458_457, Q_NB457_458, fun _ => (uk_ HO436.out), fun _ => (uk_ HO439.out), fun _ => (us_ HO442.out), hf_ (hoff 3 (by kernel_rfl)), hf_ (hoff 3 (by kernel_rfl)), z_BK457, Q_GW457, Q_GE457, Q_NB428_457, Q_NB457_428, Q_NB429_457, Q_NB457_429, z_BK458, Q_GW458, Q_GE458, Q_NB428_458, Q_NB458_428, Q_NB429_458, Q_NB458_429, hf_ (hoff 6 (by kernel_rfl)), hf_ (hoff 7 (by kernel_rfl)), fun _ => rfl, hf_ (hoff 3 (by kernel_rfl)), Q_X4_, Q_X5_⟩
     refine steps_cons ?_ ?_
     · rintro b a w' ⟨v435, v438, v441, v448, v451, gb457, gb458, m1_, m3_, m4_, m5_, ha, Q_BK428, Q_BK429, Q_HB, Q_NB458_457, Q_NB457_458, Q_HO436, Q_HO439, Q_HO442, Q_HO449, Q_HO452, Q_BK457, Q_GW457, Q_GE457, Q_NB428_457, Q_NB457_428, Q_NB429_457, Q_NB457_429, Q_BK458, Q_GW458, Q_GE458, Q_NB428_458, Q_NB458_428, Q_NB429_458, Q_NB458_429, Q_BK457_e6, Q_BK458_e7, Q_X1_, Q_X3_, Q_X4_, Q_X5_⟩ hb_ hon hoff
       refine ⟨_, rfl, fun K hK => ?_⟩
       have e3 : a.tmps[3]? = some (.pointer (some ⟨gb429, 0, none⟩)) := by rw [ha]; exact (putSel_off rfl).trans rfl
       replace ha := aM ha
       have BK428 := aM Q_BK428
       have BK429 := aM Q_BK429
       have HB := aM Q_HB
       have hc0_ : w'.cell? ⟨gb429, 0, none⟩ = some (.int .u32 a1_0) := (blk_cell BK429.out 0).trans rfl
       have hc1_ : w'.cell? ⟨gb429, 1, none⟩ = some (.int .i64 a1_1) := (blk_cell BK429.out 1).trans rfl
       have hc2_ : w'.cell? ⟨gb429, 2, none⟩ = some (.slice A1_2 l1_2.length c1_2) := (blk_cell BK429.out 2).trans rfl
       have hc3_ : w'.cell? ⟨gb429, 3, none⟩ = some (.slice A1_3 l1_3.length c1_3) := (blk_cell BK429.out 3).trans rfl
       have hc4_ : w'.cell? ⟨gb429, 4, none⟩ = some (.int .u32 a1_4) := (blk_cell BK429.out 4).trans rfl
       have hc5_ : w'.cell? ⟨gb429, 5, none⟩ = some (.int .u32 a1_5) := (blk_cell BK429.out 5).trans rfl
       have hc6_ : w'.cell? ⟨gb429, 6, none⟩ = some (.int .i64 a1_6) := (blk_cell BK429.out 6).trans rfl
       have hc7_ : w'.cell? ⟨gb429, 7, none⟩ = some (.int .u32 a1_7) := (blk_cell BK429.out 7).trans rfl
       refine value_ (w1 := w') (v := .agg #[.int .u32 a1_0, .int .i64 a1_1, .slice A1_2 l1_2.length c1_2, .slice A1_3 l1_3.length c1_3, .int .u32 a1_4, .int .u32 a1_5, .int .i64 a1_6, .int .u32 a1_7]) (by rfl) rfl ?_ ?_
       · go_simp
         (try simp only [i64_w])
         try rfl
       refine hK.out _ _ ⟨v435, v438, v441, v448, v451, gb457, gb458, m1_, m3_, m4_, m5_, (by rw [ha.out]; exact putSel_upk 2 hb_ rfl rfl rfl), Q_BK428, Q_BK429, Q_HB, Q_NB458_457, Q_NB457_458, Q_HO436, Q_HO439, Q_HO442, hf_ (hoff 3 (by kernel_rfl)), hf_ (hoff 3 (by kernel_rfl)), Q_BK457, Q_GW457, Q_GE457, Q_NB428_457, Q_NB457_428, Q_NB429_457, Q_NB457_429, Q_BK458, Q_GW458, Q_GE458, Q_NB428_458, Q_NB458_428, Q_NB429_458, Q_NB458_429, hf_ (hoff 6 (by kernel_rfl)), hf_ (hoff 7 (by kernel_rfl)), Q_X1_, hf_ (hoff 3 (by kernel_rfl)), Q_X4_, Q_X5_⟩
     refine steps_cons ?_ ?_
     · rintro b a w' ⟨v435, v438, v441, v448, v451, gb457, gb458, m1_, m3_, m4_, m5_, ha, Q_BK428, Q_BK429, Q_HB, Q_NB458_457, Q_NB457_458, Q_HO436, Q_HO439, Q_HO442, Q_HO449, Q_HO452, Q_BK457, Q_GW457, Q_GE457, Q_NB428_457, Q_NB457_428, Q_NB429_457, Q_NB457_429, Q_BK458, Q_GW458, Q_GE458, Q_NB428_458, Q_NB458_428, Q_NB429_458, Q_NB458_429, Q_BK457_e6, Q_BK458_e7, Q_X1_, Q_X3_, Q_X4_, Q_X5_⟩ hb_ hon hoff
       refine ⟨_, rfl, fun K hK => ?_⟩
       have e17 : a.tmps[17]? = some (.agg #[.int .u32 a1_0, .int .i64 a1_1, .slice A1_2 l1_2.length c1_2, .slice A1_3 l1_3.length c1_3, .int .u32 a1_4, .int .u32 a1_5, .int .i64 a1_6, .int .u32 a1_7]) := by rw [ha]; exact putSel_on (e := (2, 17, .agg #[.int .u32 a1_0, .int .i64 a1_1, .slice A1_2 l1_2.length c1_2, .slice A1_3 l1_3.length c1_3, .int .u32 a1_4, .int .u32 a1_5, .int .i64 a1_6, .int .u32 a1_7])) 2 rfl rfl (hon 2 (by kernel_rfl)) rfl
       replace ha := aM ha
       have BK428 := aM Q_BK428
       have BK429 := aM Q_BK429
       have HB := aM Q_HB
       have HO436 := aM (Q_HO436 (hon 1 (by kernel_rfl)))
       have HO439 := aM (Q_HO439 (hon 1 (by kernel_rfl)))
       have HO442 := aM (Q_HO442 (hon 1 (by kernel_rfl)))
       refine goes_ Try.func31 (by kernel_rfl) rfl #[.agg #[.int .u32 a1_0, .int .i64 a1_1, .slice A1_2 l1_2.length c1_2, .slice A1_3 l1_3.length c1_3, .int .u32 a1_4, .int .u32 a1_5, .int .i64 a1_6, .int .u32 a1_7]] (by rfl) rfl rfl (by first | (simp only [List.map_toArray, List.map_cons, List.map_nil, Act.eval, Array.getD_eq_getD_getElem?, Option.getD_some, e17]; done) | (simp only [List.map_toArray, List.map_cons, List.map_nil, Act.eval, Array.getD_eq_getD_getElem?, Option.getD_some, e17]; rfl)) ?_
       with_reducible refine (r3_Copy.calls a1_0 a1_1 _ _ l1_2 _ _ l1_3 a1_4 a1_5 a1_6 a1_7 t445 t446 t447 t450 t453 t454 t455 t456 _ ?side1 ?side2 ?side3 ?side4 A22.out).mono ?_
       (case side1 => exact cB_ HR1_2 HB)
       (case side2 => exact HC1_2.out)
       (case side3 => exact cB_ HR1_3 HB)
       (case side4 => exact HC1_3.out)
       rintro e w35 ⟨v448, v451, rfl, ho0, ho1, hb⟩
       refine ⟨_, rfl, ?_⟩
       have n0_ := aM (Kd.R_below (uk_ HO436.out) hb)
       have n1_ := aM (Kd.R_below (uk_ HO439.out) hb)
       have n2_ := aM (Kd.S_below (us_ HO442.out) hb)
       have n3_ := aM (Kd.R_lower ho0 (below_size (bw_ HB.out)))
       have n4_ := aM (Kd.R_lower ho1 (below_size (bw_ HB.out)))
       have n5_ := bb_ BK428 hb
       have n6_ := bb_ BK429 hb
       have n7_ := bs_ HB hb
       have z_BK457 := fun (h0_ : b 4 = true) (h1_ : b 6 = false) => (show w35.heap[gb457]? = some (.cells #[.int .i64 0, .slice none 0 0, .slice none 0 0, .slice none 0 0, .int .u32 0, .int .u32 0] 46 (0, 0)) from by first | exact (blk_below (g := gb457) (o := .cells #[.int .i64 0, .slice none 0 0, .slice none 0 0, .slice none 0 0, .int .u32 0, .int .u32 0] 46 (0, 0)) (ub_ ((Q_BK457 h0_ h1_))) hb))
       have z_BK458 := fun (h0_ : b 5 = true) (h1_ : b 7 = false) => (show w35.heap[gb458]? = some (.cells #[.int .u32 0, .int .i64 0, .slice none 0 0, .slice none 0 0, .int .u32 0, .int .u32 0, .int .i64 0, .int .u32 0] 50 (0, 0)) from by first | exact (blk_below (g := gb458) (o := .cells #[.int .u32 0, .int .i64 0, .slice none 0 0, .slice none 0 0, .int .u32 0, .int .u32 0, .int .i64 0, .int .u32 0] 50 (0, 0)) (ub_ ((Q_BK458 h0_ h1_))) hb))
       clear HO436
       clear HO439
       clear HO442
       clear BK428
       clear BK429
       clear HB
       have HO436 := n0_
       have HO439 := n1_
       have HO442 := n2_
       have HO449 := n3_
       have HO452 := n4_
       have BK428 := n5_
       have BK429 := n6_
       have HB := n7_
       clear n0_ n1_ n2_ n3_ n4_ n5_ n6_ n7_
       (try clear hb)
       (try clear hb2)
       (try clear hk)
       (try clear hi)
       (try clear ho0)
       (try clear ho1)
       refine hK.out _ _ ⟨v435, v438, v441, v448, v451, gb457, gb458, m1_, (.agg #[.int .u32 t445, .int .i64 t446, v448, v451, .int .u32 t453, .int .u32 t454, .int .i64 t455, .int .u32 t456]), m4_, m5_, (by rw [ha.out]; exact putSel_upk 3 hb_ rfl rfl rfl), (ub_ BK428.out), (ub_ BK429.out), (bw_ HB.out), Q_NB458_457, Q_NB457_458, fun _ => (uk_ HO436.out), fun _ => (uk_ HO439.out), fun _ => (us_ HO442.out), fun _ => Kd.R_mono (uk_ HO449.out) (fun _ h_ => by first | trivial | exact h_ | exact h_.1), fun _ => Kd.R_mono (uk_ HO452.out) (fun _ h_ => by first | trivial | exact h_ | exact h_.1), z_BK457, Q_GW457, Q_GE457, Q_NB428_457, Q_NB457_428, Q_NB429_457, Q_NB457_429, z_BK458, Q_GW458, Q_GE458, Q_NB428_458, Q_NB458_428, Q_NB429_458, Q_NB458_429, hf_ (hoff 6 (by kernel_rfl)), hf_ (hoff 7 (by kernel_rfl)), Q_X1_, fun _ => rfl, Q_X4_, Q_X5_⟩
     refine steps_cons ?_ ?_
     · rintro b a w' ⟨v435, v438, v441, v448, v451, gb457, gb458, m1_, m3_, m4_, m5_, ha, Q_BK428, Q_BK429, Q_HB, Q_NB458_457, Q_NB457_458, Q_HO436, Q_HO439, Q_HO442, Q_HO449, Q_HO452, Q_BK457, Q_GW457, Q_GE457, Q_NB428_457, Q_NB457_428, Q_NB429_457, Q_NB457_429, Q_BK458, Q_GW458, Q_GE458, Q_NB428_458, Q_NB458_428, Q_NB429_458, Q_NB458_429, Q_BK457_e6, Q_BK458_e7, Q_X1_, Q_X3_, Q_X4_, Q_X5_⟩ hb_ hon hoff
       refine ⟨_, rfl, fun K hK => ?_⟩
       replace ha := aM ha
       have BK428 := aM Q_BK428
       have BK429 := aM Q_BK429
       have HB := aM Q_HB
       refine box_step ?hg (N := 5) ?hd (cs := #[.int .i64 0, .slice none 0 0, .slice none 0 0, .slice none 0 0, .int .u32 0, .int .u32 0]) (t := 46) ?hr ?_; (case hd => rfl); (case hg => rfl); (case hr => first | (go_simp; done) | (go_simp; rfl))
       intro gb457 hg w33 hbox hb
       have n0_ := bb_ BK428 hb
       have n1_ := bb_ BK429 hb
       have n2_ := bs_ HB hb
       have n3_ := aM hbox
       have n4_ := ge_ HB hg
       have n5_ := ge_ HB hg
       have n6_ := nl_ BK428 hg
       have n7_ := ng_ BK428 hg
       have n8_ := nl_ BK429 hg
       have n9_ := ng_ BK429 hg
       have z_NB458_457 := fun (h0_ : up b 4 4 = true) (h1_ : up b 4 5 = true) => (show gb458 ≠ gb457 from ((by rw [hg]; exact Nat.ne_of_lt (blk_lt (g := gb458) (o := .cells #[.int .u32 0, .int .i64 0, .slice none 0 0, .slice none 0 0, .int .u32 0, .int .u32 0, .int .i64 0, .int .u32 0] 50 (0, 0)) (ub_ ((Q_BK458 h1_ (hoff 7 (by kernel_rfl)))))) : gb458 ≠ gb457)))
       have z_NB457_458 := fun (h0_ : up b 4 4 = true) (h1_ : up b 4 5 = true) => (show gb457 ≠ gb458 from ((by rw [hg]; exact Nat.ne_of_gt (blk_lt (g := gb458) (o := .cells #[.int .u32 0, .int .i64 0, .slice none 0 0, .slice none 0 0, .int .u32 0, .int .u32 0, .int .i64 0, .int .u32 0] 50 (0, 0)) (ub_ ((Q_BK458 h1_ (hoff 7 (by kernel_rfl)))))) : gb457 ≠ gb458)))
       have z_HO436 := fun (h0_ : b 1 = true) => (show Kd.R k83 83 w33 w.heap.size (fun _ => True) v435 t434 from by first | exact (Kd.R_below (uk_ (Q_HO436 h0_)) hb) | exact Kd.R_mono (Kd.R_below (uk_ (Q_HO436 h0_)) hb) (fun _ h_ => by first | trivial | exact h_ | exact h_.1))
       have z_HO439 := fun (h0_ : b 1 = true) => (show Kd.R k61 61 w33 w.heap.size (fun _ => True) v438 t437 from by first | exact (Kd.R_below (uk_ (Q_HO439 h0_)) hb) | exact Kd.R_mono (Kd.R_below (uk_ (Q_HO439 h0_)) hb) (fun _ h_ => by first | trivial | exact h_ | exact h_.1))
       have z_HO442 := fun (h0_ : b 1 = true) => (show Kd.S k64 64 w33 w.heap.size (fun _ => True) v441 t440 from by first | exact (Kd.S_below (us_ (Q_HO442 h0_)) hb) | exact Kd.S_mono (Kd.S_below (us_ (Q_HO442 h0_)) hb) (fun _ h_ => by first | trivial | exact h_ | exact h_.1))
       have z_HO449 := fun (h0_ : b 3 = true) => (show Kd.R (Kd.int .u32) 36 w33 w.heap.size (fun _ => True) v448 t447 from by first | exact (Kd.R_below (uk_ (Q_HO449 h0_)) hb) | exact Kd.R_mono (Kd.R_below (uk_ (Q_HO449 h0_)) hb) (fun _ h_ => by first | trivial | exact h_ | exact h_.1))
       have z_HO452 := fun (h0_ : b 3 = true) => (show Kd.R (Kd.int .u32) 36 w33 w.heap.size (fun _ => True) v451 t450 from by first | exact (Kd.R_below (uk_ (Q_HO452 h0_)) hb) | exact Kd.R_mono (Kd.R_below (uk_ (Q_HO452 h0_)) hb) (fun _ h_ => by first | trivial | exact h_ | exact h_.1))
       have z_BK458 := fun (h0_ : b 5 = true) (h1_ : b 7 = false) => (show w33.heap[gb458]? = some (.cells #[.int .u32 0, .int .i64 0, .slice none 0 0, .slice none 0 0, .int .u32 0, .int .u32 0, .int .i64 0, .int .u32 0] 50 (0, 0)) from by first | exact (blk_below (g := gb458) (o := .cells #[.int .u32 0, .int .i64 0, .slice none 0 0, .slice none 0 0, .int .u32 0, .int .u32 0, .int .i64 0, .int .u32 0] 50 (0, 0)) (ub_ ((Q_BK458 h0_ h1_))) hb))
       clear BK428
       clear BK429
       clear HB
       have BK428 := n0_
       have BK429 := n1_
       have HB := n2_
       have BK457 := n3_
       have GW457 := n4_
       have GE457 := n5_
       have NB428_457 := n6_
       have NB457_428 := n7_
       have NB429_457 := n8_
       have NB457_429 := n9_
       clear n0_ n1_ n2_ n3_ n4_ n5_ n6_ n7_ n8_ n9_
       clear hb hbox hg
       refine hK.out _ _ ⟨v435, v438, v441, v448, v451, gb457, gb458, m1_, m3_, (.pointer (some ⟨gb457, 0, none⟩)), m5_, (by rw [ha.out]; exact putSel_upk 4 hb_ rfl rfl rfl), (ub_ BK428.out), (ub_ BK429.out), (bw_ HB.out), @z_NB458_457, @z_NB457_458, z_HO436, z_HO439, z_HO442, z_HO449, z_HO452, fun _ _ => (ub_ BK457.out), fun _ => GW457.out, fun _ => GE457.out, fun _ => NB428_457.out, fun _ => NB457_428.out, fun _ => NB429_457.out, fun _ => NB457_429.out, z_BK458, Q_GW458, Q_GE458, Q_NB428_458, Q_NB458_428, Q_NB429_458, Q_NB458_429, hf_ (hoff 6 (by kernel_rfl)), hf_ (hoff 7 (by kernel_rfl)), Q_X1_, Q_X3_, fun _ => rfl, Q_X5_⟩
     refine steps_cons ?_ ?_
     · rintro b a w' ⟨v435, v438, v441, v448, v451, gb457, gb458, m1_, m3_, m4_, m5_, ha, Q_BK428, Q_BK429, Q_HB, Q_NB458_457, Q_NB457_458, Q_HO436, Q_HO439, Q_HO442, Q_HO449, Q_HO452, Q_BK457, Q_GW457, Q_GE457, Q_NB428_457, Q_NB457_428, Q_NB429_457, Q_NB457_429, Q_BK458, Q_GW458, Q_GE458, Q_NB428_458, Q_NB458_428, Q_NB429_458, Q_NB458_429, Q_BK457_e6, Q_BK458_e7, Q_X1_, Q_X3_, Q_X4_, Q_X5_⟩ hb_ hon hoff
       refine ⟨_, rfl, fun K hK => ?_⟩
       replace ha := aM ha
       have BK428 := aM Q_BK428
       have BK429 := aM Q_BK429
       have HB := aM Q_HB
       refine box_step ?hg (N := 6) ?hd (cs := #[.int .u32 0, .int .i64 0, .slice none 0 0, .slice none 0 0, .int .u32 0, .int .u32 0, .int .i64 0, .int .u32 0]) (t := 50) ?hr ?_; (case hd => rfl); (case hg => rfl); (case hr => first | (go_simp; done) | (go_simp; rfl))
       intro gb458 hg w33 hbox hb
       have n0_ := bb_ BK428 hb
       have n1_ := bb_ BK429 hb
       have n2_ := bs_ HB hb
       have n3_ := aM hbox
       have n4_ := ge_ HB hg
       have n5_ := ge_ HB hg
       have n6_ := nl_ BK428 hg
       have n7_ := ng_ BK428 hg
       have n8_ := nl_ BK429 hg
       have n9_ := ng_ BK429 hg
       have z_NB458_457 := fun (h0_ : up b 5 4 = true) (h1_ : up b 5 5 = true) => (show gb458 ≠ gb457 from ((by rw [hg]; exact Nat.ne_of_gt (blk_lt (g := gb457) (o := .cells #[.int .i64 0, .slice none 0 0, .slice none 0 0, .slice none 0 0, .int .u32 0, .int .u32 0] 46 (0, 0)) (ub_ ((Q_BK457 h0_ (hoff 6 (by kernel_rfl)))))) : gb458 ≠ gb457)))
       have z_NB457_458 := fun (h0_ : up b 5 4 = true) (h1_ : up b 5 5 = true) => (show gb457 ≠ gb458 from ((by rw [hg]; exact Nat.ne_of_lt (blk_lt (g := gb457) (o := .cells #[.int .i64 0, .slice none 0 0, .slice none 0 0, .slice none 0 0, .int .u32 0, .int .u32 0] 46 (0, 0)) (ub_ ((Q_BK457 h0_ (hoff 6 (by kernel_rfl)))))) : gb457 ≠ gb458)))
       have z_HO436 := fun (h0_ : b 1 = true) => (show Kd.R k83 83 w33 w.heap.size (fun _ => True) v435 t434 from by first | exact (Kd.R_below (uk_ (Q_HO436 h0_)) hb) | exact Kd.R_mono (Kd.R_below (uk_ (Q_HO436 h0_)) hb) (fun _ h_ => by first | trivial | exact h_ | exact h_.1))
       have z_HO439 := fun (h0_ : b 1 = true) => (show Kd.R k61 61 w33 w.heap.size (fun _ => True) v438 t437 from by first | exact (Kd.R_below (uk_ (Q_HO439 h0_)) hb) | exact Kd.R_mono (Kd.R_below (uk_ (Q_HO439 h0_)) hb) (fun _ h_ => by first | trivial | exact h_ | exact h_.1))
       have z_HO442 := fun (h0_ : b 1 = true) => (show Kd.S k64 64 w33 w.heap.size (fun _ => True) v441 t440 from by first | exact (Kd.S_below (us_ (Q_HO442 h0_)) hb) | exact Kd.S_mono (Kd.S_below (us_ (Q_HO442 h0_)) hb) (fun _ h_ => by first | trivial | exact h_ | exact h_.1))
       have z_HO449 := fun (h0_ : b 3 = true) => (show Kd.R (Kd.int .u32) 36 w33 w.heap.size (fun _ => True) v448 t447 from by first | exact (Kd.R_below (uk_ (Q_HO449 h0_)) hb) | exact Kd.R_mono (Kd.R_below (uk_ (Q_HO449 h0_)) hb) (fun _ h_ => by first | trivial | exact h_ | exact h_.1))
       have z_HO452 := fun (h0_ : b 3 = true) => (show Kd.R (Kd.int .u32) 36 w33 w.heap.size (fun _ => True) v451 t450 from by first | exact (Kd.R_below (uk_ (Q_HO452 h0_)) hb) | exact Kd.R_mono (Kd.R_below (uk_ (Q_HO452 h0_)) hb) (fun _ h_ => by first | trivial | exact h_ | exact h_.1))
       have z_BK457 := fun (h0_ : b 4 = true) (h1_ : b 6 = false) => (show w33.heap[gb457]? = some (.cells #[.int .i64 0, .slice none 0 0, .slice none 0 0, .slice none 0 0, .int .u32 0, .int .u32 0] 46 (0, 0)) from by first | exact (blk_below (g := gb457) (o := .cells #[.int .i64 0, .slice none 0 0, .slice none 0 0, .slice none 0 0, .int .u32 0, .int .u32 0] 46 (0, 0)) (ub_ ((Q_BK457 h0_ h1_))) hb))
       clear BK428
       clear BK429
       clear HB
       have BK428 := n0_
       have BK429 := n1_
       have HB := n2_
       have BK458 := n3_
       have GW458 := n4_
       have GE458 := n5_
       have NB428_458 := n6_
       have NB458_428 := n7_
       have NB429_458 := n8_
       have NB458_429 := n9_
       clear n0_ n1_ n2_ n3_ n4_ n5_ n6_ n7_ n8_ n9_
       clear hb hbox hg
       refine hK.out _ _ ⟨v435, v438, v441, v448, v451, gb457, gb458, m1_, m3_, m4_, (.pointer (some ⟨gb458, 0, none⟩)), (by rw [ha.out]; exact putSel_upk 5 hb_ rfl rfl rfl), (ub_ BK428.out), (ub_ BK429.out), (bw_ HB.out), @z_NB458_457, @z_NB457_458, z_HO436, z_HO439, z_HO442, z_HO449, z_HO452, z_BK457, Q_GW457, Q_GE457, Q_NB428_457, Q_NB457_428, Q_NB429_457, Q_NB457_429, fun _ _ => (ub_ BK458.out), fun _ => GW458.out, fun _ => GE458.out, fun _ => NB428_458.out, fun _ => NB458_428.out, fun _ => NB429_458.out, fun _ => NB458_429.out, hf_ (hoff 6 (by kernel_rfl)), hf_ (hoff 7 (by kernel_rfl)), Q_X1_, Q_X3_, Q_X4_, fun _ => rfl⟩
     refine steps_cons ?_ ?_
     · rintro b a w' ⟨v435, v438, v441, v448, v451, gb457, gb458, m1_, m3_, m4_, m5_, ha, Q_BK428, Q_BK429, Q_HB, Q_NB458_457, Q_NB457_458, Q_HO436, Q_HO439, Q_HO442, Q_HO449, Q_HO452, Q_BK457, Q_GW457, Q_GE457, Q_NB428_457, Q_NB457_428, Q_NB429_457, Q_NB457_429, Q_BK458, Q_GW458, Q_GE458, Q_NB428_458, Q_NB458_428, Q_NB429_458, Q_NB458_429, Q_BK457_e6, Q_BK458_e7, Q_X1_, Q_X3_, Q_X4_, Q_X5_⟩ hb_ hon hoff
       refine ⟨_, rfl, fun K hK => ?_⟩
       have e5 : a.tmps[5]? = some (m4_) := by rw [ha]; exact putSel_on (e := (4, 5, m4_)) 4 rfl rfl (hon 4 (by kernel_rfl)) rfl
       rw [Q_X4_ (hon 4 (by kernel_rfl))] at e5
       have e16 : a.tmps[16]? = some (m1_) := by rw [ha]; exact putSel_on (e := (1, 16, m1_)) 1 rfl rfl (hon 1 (by kernel_rfl)) rfl
       rw [Q_X1_ (hon 1 (by kernel_rfl))] at e16
       replace ha := aM ha
       have BK428 := aM Q_BK428
       have BK429 := aM Q_BK429
       have HB := aM Q_HB
       have NB458_457 := aM (Q_NB458_457 (hon 4 (by kernel_rfl)) (hon 5 (by kernel_rfl)))
       have NB457_458 := aM (Q_NB457_458 (hon 4 (by kernel_rfl)) (hon 5 (by kernel_rfl)))
       have HO436 := aM (Q_HO436 (hon 1 (by kernel_rfl)))
       have HO439 := aM (Q_HO439 (hon 1 (by kernel_rfl)))
       have HO442 := aM (Q_HO442 (hon 1 (by kernel_rfl)))
       have HO449 := aM (Q_HO449 (hon 3 (by kernel_rfl)))
       have HO452 := aM (Q_HO452 (hon 3 (by kernel_rfl)))
       have BK457 := aM (Q_BK457 (hon 4 (by kernel_rfl)) hb_)
       have GW457 := aM (Q_GW457 (hon 4 (by kernel_rfl)))
       have GE457 := aM (Q_GE457 (hon 4 (by kernel_rfl)))
       have NB428_457 := aM (Q_NB428_457 (hon 4 (by kernel_rfl)))
       have NB457_428 := aM (Q_NB457_428 (hon 4 (by kernel_rfl)))
       have NB429_457 := aM (Q_NB429_457 (hon 4 (by kernel_rfl)))
       have NB457_429 := aM (Q_NB457_429 (hon 4 (by kernel_rfl)))
       have BK458 := aM (Q_BK458 (hon 5 (by kernel_rfl)) (hoff 7 (by kernel_rfl)))
       have GW458 := aM (Q_GW458 (hon 5 (by kernel_rfl)))
       have GE458 := aM (Q_GE458 (hon 5 (by kernel_rfl)))
       have NB428_458 := aM (Q_NB428_458 (hon 5 (by kernel_rfl)))
       have NB458_428 := aM (Q_NB458_428 (hon 5 (by kernel_rfl)))
       have NB429_458 := aM (Q_NB429_458 (hon 5 (by kernel_rfl)))
       have NB458_429 := aM (Q_NB458_429 (hon 5 (by kernel_rfl)))
       obtain ⟨Ao39, co39, eo39⟩ := Kd.R_slice HO436.out
       (first | subst eo39 | (injection eo39 with f1_ f2_ f3_; have f4_ := f1_.symm; have f5_ := f3_.symm; clear f1_ f2_ f3_; subst f4_; subst f5_))
       obtain ⟨Ao41, co41, eo41⟩ := Kd.R_slice HO439.out
       (first | subst eo41 | (injection eo41 with f1_ f2_ f3_; have f4_ := f1_.symm; have f5_ := f3_.symm; clear f1_ f2_ f3_; subst f4_; subst f5_))
       obtain ⟨Ao43, co43, eo43⟩ := Kd.S_slice HO442.out
       (first | subst eo43 | (injection eo43 with f1_ f2_ f3_; have f4_ := f1_.symm; have f5_ := f3_.symm; clear f1_ f2_ f3_; subst f4_; subst f5_))
       have hs38 : w'.cell? ⟨gb457, 0, none⟩ = some (.int .i64 0) := (blk_cell BK457.out 0).trans rfl
       have hfs38 := bF BK457.out 0
       have hns38_0 := NB428_457.out
       have hns38_1 := NB429_457.out
       have hns38_3 := NB458_457.out
       have hms38_0 := NB457_428.out
       have hms38_1 := NB457_429.out
       have hms38_3 := NB457_458.out
       have hs40 : w'.cell? ⟨gb457, 1, none⟩ = some (.slice none 0 0) := (blk_cell BK457.out 1).trans rfl
       have hfs40 := bF BK457.out 1
       have hns40_0 := NB428_457.out
       have hns40_1 := NB429_457.out
       have hns40_3 := NB458_457.out
       have hms40_0 := NB457_428.out
       have hms40_1 := NB457_429.out
       have hms40_3 := NB457_458.out
       have hs42 : w'.cell? ⟨gb457, 2, none⟩ = some (.slice none 0 0) := (blk_cell BK457.out 2).trans rfl
       have hfs42 := bF BK457.out 2
       have hns42_0 := NB428_457.out
       have hns42_1 := NB429_457.out
       have hns42_3 := NB458_457.out
       have hms42_0 := NB457_428.out
       have hms42_1 := NB457_429.out
       have hms42_3 := NB457_458.out
       have hs44 : w'.cell? ⟨gb457, 3, none⟩ = some (.slice none 0 0) := (blk_cell BK457.out 3).trans rfl
       have hfs44 := bF BK457.out 3
       have hns44_0 := NB428_457.out
       have hns44_1 := NB429_457.out
       have hns44_3 := NB458_457.out
       have hms44_0 := NB457_428.out
       have hms44_1 := NB457_429.out
       have hms44_3 := NB457_458.out
       have hs45 : w'.cell? ⟨gb457, 4, none⟩ = some (.int .u32 0) := (blk_cell BK457.out 4).trans rfl
       have hfs45 := bF BK457.out 4
       have hns45_0 := NB428_457.out
       have hns45_1 := NB429_457.out
       have hns45_3 := NB458_457.out
       have hms45_0 := NB457_428.out
       have hms45_1 := NB457_429.out
       have hms45_3 := NB457_458.out
       have hs46 : w'.cell? ⟨gb457, 5, none⟩ = some (.int .u32 0) := (blk_cell BK457.out 5).trans rfl
       have hfs46 := bF BK457.out 5
       have hns46_0 := NB428_457.out
       have hns46_1 := NB429_457.out
       have hns46_3 := NB458_457.out
       have hms46_0 := NB457_428.out
       have hms46_1 := NB457_429.out
       have hms46_3 := NB457_458.out
       refine skip_ (w1 := ?_) (by rfl) rfl ?_ ?_
       rotate_left
       · go_simp
         rfl
       refine hK.out _ _ ⟨.slice Ao39 t434.length co39, .slice Ao41 t437.length co41, .slice Ao43 t440.length co43, v448, v451, gb457, gb458, m1_, m3_, m4_, m5_, (by rw [ha.out]; exact putSel_none (v := undef) rfl), (ub_ BK428.out), (ub_ BK429.out), (bw_ HB.out), fun _ _ => NB458_457.out, fun _ _ => NB457_458.out, fun _ => (by (with_reducible repeat (first | apply kA | apply kN | apply kD)); exact Kd.R_mono (Kd.R_far (p := ⟨gb457, 5, none⟩) (Kd.R_far (p := ⟨gb457, 4, none⟩) (Kd.R_far (p := ⟨gb457, 3, none⟩) (Kd.R_far (p := ⟨gb457, 2, none⟩) (Kd.R_far (p := ⟨gb457, 1, none⟩) (Kd.R_far (p := ⟨gb457, 0, none⟩) (Kd.R_types HO436.out BK457.out (by decide)) (fun _ hk => hk.2) (.int .i64 t433)) (fun _ hk => hk.2) (.slice Ao39 t434.length co39)) (fun _ hk => hk.2) (.slice Ao41 t437.length co41)) (fun _ hk => hk.2) (.slice Ao43 t440.length co43)) (fun _ hk => hk.2) (.int .u32 t443)) (fun _ hk => hk.2) (.int .u32 t444)) (fun _ hk => trivial)), fun _ => (by (with_reducible repeat (first | apply kA | apply kN | apply kD)); exact Kd.R_mono (Kd.R_far (p := ⟨gb457, 5, none⟩) (Kd.R_far (p := ⟨gb457, 4, none⟩) (Kd.R_far (p := ⟨gb457, 3, none⟩) (Kd.R_far (p := ⟨gb457, 2, none⟩) (Kd.R_far (p := ⟨gb457, 1, none⟩) (Kd.R_far (p := ⟨gb457, 0, none⟩) (Kd.R_types HO439.out BK457.out (by decide)) (fun _ hk => hk.2) (.int .i64 t433)) (fun _ hk => hk.2) (.slice Ao39 t434.length co39)) (fun _ hk => hk.2) (.slice Ao41 t437.length co41)) (fun _ hk => hk.2) (.slice Ao43 t440.length co43)) (fun _ hk => hk.2) (.int .u32 t443)) (fun _ hk => hk.2) (.int .u32 t444)) (fun _ hk => trivial)), fun _ => (by (with_reducible repeat (first | apply Kd.S_alloc | apply Kd.S_drewN | apply Kd.S_drew)); exact Kd.S_mono (Kd.S_far (p := ⟨gb457, 5, none⟩) (Kd.S_far (p := ⟨gb457, 4, none⟩) (Kd.S_far (p := ⟨gb457, 3, none⟩) (Kd.S_far (p := ⟨gb457, 2, none⟩) (Kd.S_far (p := ⟨gb457, 1, none⟩) (Kd.S_far (p := ⟨gb457, 0, none⟩) (Kd.S_types HO442.out BK457.out (by decide)) (fun _ hk => hk.2) (.int .i64 t433)) (fun _ hk => hk.2) (.slice Ao39 t434.length co39)) (fun _ hk => hk.2) (.slice Ao41 t437.length co41)) (fun _ hk => hk.2) (.slice Ao43 t440.length co43)) (fun _ hk => hk.2) (.int .u32 t443)) (fun _ hk => hk.2) (.int .u32 t444)) (fun _ hk => trivial)), fun _ => (by (with_reducible repeat (first | apply kA | apply kN | apply kD)); exact Kd.R_mono (Kd.R_far (p := ⟨gb457, 5, none⟩) (Kd.R_far (p := ⟨gb457, 4, none⟩) (Kd.R_far (p := ⟨gb457, 3, none⟩) (Kd.R_far (p := ⟨gb457, 2, none⟩) (Kd.R_far (p := ⟨gb457, 1, none⟩) (Kd.R_far (p := ⟨gb457, 0, none⟩) (Kd.R_types HO449.out BK457.out (by decide)) (fun _ hk => hk.2) (.int .i64 t433)) (fun _ hk => hk.2) (.slice Ao39 t434.length co39)) (fun _ hk => hk.2) (.slice Ao41 t437.length co41)) (fun _ hk => hk.2) (.slice Ao43 t440.length co43)) (fun _ hk => hk.2) (.int .u32 t443)) (fun _ hk => hk.2) (.int .u32 t444)) (fun _ hk => hk.1)), fun _ => (by (with_reducible repeat (first | apply kA | apply kN | apply kD)); exact Kd.R_mono (Kd.R_far (p := ⟨gb457, 5, none⟩) (Kd.R_far (p := ⟨gb457, 4, none⟩) (Kd.R_far (p := ⟨gb457, 3, none⟩) (Kd.R_far (p := ⟨gb457, 2, none⟩) (Kd.R_far (p := ⟨gb457, 1, none⟩) (Kd.R_far (p := ⟨gb457, 0, none⟩) (Kd.R_types HO452.out BK457.out (by decide)) (fun _ hk => hk.2) (.int .i64 t433)) (fun _ hk => hk.2) (.slice Ao39 t434.length co39)) (fun _ hk => hk.2) (.slice Ao41 t437.length co41)) (fun _ hk => hk.2) (.slice Ao43 t440.length co43)) (fun _ hk => hk.2) (.int .u32 t443)) (fun _ hk => hk.2) (.int .u32 t444)) (fun _ hk => hk.1)), fun _ h1_ => absurd ((up_self b 6).symm.trans h1_) (by decide), fun _ => GW457.out, fun _ => GE457.out, fun _ => NB428_457.out, fun _ => NB457_428.out, fun _ => NB429_457.out, fun _ => NB457_429.out, fun _ _ => (ub_ BK458.out), fun _ => GW458.out, fun _ => GE458.out, fun _ => NB428_458.out, fun _ => NB458_428.out, fun _ => NB429_458.out, fun _ => NB458_429.out, fun _ => (ub_ BK457.out), hf_ (hoff 7 (by kernel_rfl)), Q_X1_, Q_X3_, Q_X4_, Q_X5_⟩
     refine steps_cons ?_ ?_
     · rintro b a w' ⟨v435, v438, v441, v448, v451, gb457, gb458, m1_, m3_, m4_, m5_, ha, Q_BK428, Q_BK429, Q_HB, Q_NB458_457, Q_NB457_458, Q_HO436, Q_HO439, Q_HO442, Q_HO449, Q_HO452, Q_BK457, Q_GW457, Q_GE457, Q_NB428_457, Q_NB457_428, Q_NB429_457, Q_NB457_429, Q_BK458, Q_GW458, Q_GE458, Q_NB428_458, Q_NB458_428, Q_NB429_458, Q_NB458_429, Q_BK457_e6, Q_BK458_e7, Q_X1_, Q_X3_, Q_X4_, Q_X5_⟩ hb_ hon hoff
       refine ⟨_, rfl, fun K hK => ?_⟩
       have e6 : a.tmps[6]? = some (m5_) := by rw [ha]; exact putSel_on (e := (5, 6, m5_)) 5 rfl rfl (hon 5 (by kernel_rfl)) rfl
       rw [Q_X5_ (hon 5 (by kernel_rfl))] at e6
       have e18 : a.tmps[18]? = some (m3_) := by rw [ha]; exact putSel_on (e := (3, 18, m3_)) 3 rfl rfl (hon 3 (by kernel_rfl)) rfl
       rw [Q_X3_ (hon 3 (by kernel_rfl))] at e18
       replace ha := aM ha
       have BK428 := aM Q_BK428
       have BK429 := aM Q_BK429
       have HB := aM Q_HB
       have NB458_457 := aM (Q_NB458_457 (hon 4 (by kernel_rfl)) (hon 5 (by kernel_rfl)))
       have NB457_458 := aM (Q_NB457_458 (hon 4 (by kernel_rfl)) (hon 5 (by kernel_rfl)))
       have HO436 := aM (Q_HO436 (hon 1 (by kernel_rfl)))
       have HO439 := aM (Q_HO439 (hon 1 (by kernel_rfl)))
       have HO442 := aM (Q_HO442 (hon 1 (by kernel_rfl)))
       have HO449 := aM (Q_HO449 (hon 3 (by kernel_rfl)))
       have HO452 := aM (Q_HO452 (hon 3 (by kernel_rfl)))
       have GW457 := aM (Q_GW457 (hon 4 (by kernel_rfl)))
       have GE457 := aM (Q_GE457 (hon 4 (by kernel_rfl)))
       have NB428_457 := aM (Q_NB428_457 (hon 4 (by kernel_rfl)))
       have NB457_428 := aM (Q_NB457_428 (hon 4 (by kernel_rfl)))
       have NB429_457 := aM (Q_NB429_457 (hon 4 (by kernel_rfl)))
       have NB457_429 := aM (Q_NB457_429 (hon 4 (by kernel_rfl)))
       have BK458 := aM (Q_BK458 (hon 5 (by kernel_rfl)) hb_)
       have GW458 := aM (Q_GW458 (hon 5 (by kernel_rfl)))
       have GE458 := aM (Q_GE458 (hon 5 (by kernel_rfl)))
       have NB428_458 := aM (Q_NB428_458 (hon 5 (by kernel_rfl)))
       have NB458_428 := aM (Q_NB458_428 (hon 5 (by kernel_rfl)))
       have NB429_458 := aM (Q_NB429_458 (hon 5 (by kernel_rfl)))
       have NB458_429 := aM (Q_NB458_429 (hon 5 (by kernel_rfl)))
       have BK457 := aM (Q_BK457_e6 (hon 6 (by kernel_rfl)))
       obtain ⟨Ao49, co49, eo49⟩ := Kd.R_slice HO449.out
       (first | subst eo49 | (injection eo49 with f1_ f2_ f3_; have f4_ := f1_.symm; have f5_ := f3_.symm; clear f1_ f2_ f3_; subst f4_; subst f5_))
       obtain ⟨Ao51, co51, eo51⟩ := Kd.R_slice HO452.out
       (first | subst eo51 | (injection eo51 with f1_ f2_ f3_; have f4_ := f1_.symm; have f5_ := f3_.symm; clear f1_ f2_ f3_; subst f4_; subst f5_))
       have hs47 : w'.cell? ⟨gb458, 0, none⟩ = some (.int .u32 0) := (blk_cell BK458.out 0).trans rfl
       have hfs47 := bF BK458.out 0
       have hns47_0 := NB428_458.out
       have hns47_1 := NB429_458.out
       have hns47_2 := NB457_458.out
       have hms47_0 := NB458_428.out
       have hms47_1 := NB458_429.out
       have hms47_2 := NB458_457.out
       have hs48 : w'.cell? ⟨gb458, 1, none⟩ = some (.int .i64 0) := (blk_cell BK458.out 1).trans rfl
       have hfs48 := bF BK458.out 1
       have hns48_0 := NB428_458.out
       have hns48_1 := NB429_458.out
       have hns48_2 := NB457_458.out
       have hms48_0 := NB458_428.out
       have hms48_1 := NB458_429.out
       have hms48_2 := NB458_457.out
       have hs50 : w'.cell? ⟨gb458, 2, none⟩ = some (.slice none 0 0) := (blk_cell BK458.out 2).trans rfl
       have hfs50 := bF BK458.out 2
       have hns50_0 := NB428_458.out
       have hns50_1 := NB429_458.out
       have hns50_2 := NB457_458.out
       have hms50_0 := NB458_428.out
       have hms50_1 := NB458_429.out
       have hms50_2 := NB458_457.out
       have hs52 : w'.cell? ⟨gb458, 3, none⟩ = some (.slice none 0 0) := (blk_cell BK458.out 3).trans rfl
       have hfs52 := bF BK458.out 3
       have hns52_0 := NB428_458.out
       have hns52_1 := NB429_458.out
       have hns52_2 := NB457_458.out
       have hms52_0 := NB458_428.out
       have hms52_1 := NB458_429.out
       have hms52_2 := NB458_457.out
       have hs53 : w'.cell? ⟨gb458, 4, none⟩ = some (.int .u32 0) := (blk_cell BK458.out 4).trans rfl
       have hfs53 := bF BK458.out 4
       have hns53_0 := NB428_458.out
       have hns53_1 := NB429_458.out
       have hns53_2 := NB457_458.out
       have hms53_0 := NB458_428.out
       have hms53_1 := NB458_429.out
       have hms53_2 := NB458_457.out
       have hs54 : w'.cell? ⟨gb458, 5, none⟩ = some (.int .u32 0) := (blk_cell BK458.out 5).trans rfl
       have hfs54 := bF BK458.out 5
       have hns54_0 := NB428_458.out
       have hns54_1 := NB429_458.out
       have hns54_2 := NB457_458.out
       have hms54_0 := NB458_428.out
       have hms54_1 := NB458_429.out
       have hms54_2 := NB458_457.out
       have hs55 : w'.cell? ⟨gb458, 6, none⟩ = some (.int .i64 0) := (blk_cell BK458.out 6).trans rfl
       have hfs55 := bF BK458.out 6
       have hns55_0 := NB428_458.out
       have hns55_1 := NB429_458.out
       have hns55_2 := NB457_458.out
       have hms55_0 := NB458_428.out
       have hms55_1 := NB458_429.out
       have hms55_2 := NB458_457.out
       have hs56 : w'.cell? ⟨gb458, 7, none⟩ = some (.int .u32 0) := (blk_cell BK458.out 7).trans rfl
       have hfs56 := bF BK458.out 7
       have hns56_0 := NB428_458.out
       have hns56_1 := NB429_458.out
       have hns56_2 := NB457_458.out
       have hms56_0 := NB458_428.out
       have hms56_1 := NB458_429.out
       have hms56_2 := NB458_457.out
       refine skip_ (w1 := ?_) (by rfl) rfl ?_ ?_
       rotate_left
       · go_simp
         rfl
       refine hK.out _ _ ⟨v435, v438, v441, .slice Ao49 t447.length co49, .slice Ao51 t450.length co51, gb457, gb458, m1_, m3_, m4_, m5_, (by rw [ha.out]; exact putSel_none (v := undef) rfl), (ub_ BK428.out), (ub_ BK429.out), (bw_ HB.out), fun _ _ => NB458_457.out, fun _ _ => NB457_458.out, fun _ => (by (with_reducible repeat (first | apply kA | apply kN | apply kD)); exact Kd.R_mono (Kd.R_far (p := ⟨gb458, 7, none⟩) (Kd.R_far (p := ⟨gb458, 6, none⟩) (Kd.R_far (p := ⟨gb458, 5, none⟩) (Kd.R_far (p := ⟨gb458, 4, none⟩) (Kd.R_far (p := ⟨gb458, 3, none⟩) (Kd.R_far (p := ⟨gb458, 2, none⟩) (Kd.R_far (p := ⟨gb458, 1, none⟩) (Kd.R_far (p := ⟨gb458, 0, none⟩) (Kd.R_types HO436.out BK458.out (by decide)) (fun _ hk => hk.2) (.int .u32 t445)) (fun _ hk => hk.2) (.int .i64 t446)) (fun _ hk => hk.2) (.slice Ao49 t447.length co49)) (fun _ hk => hk.2) (.slice Ao51 t450.length co51)) (fun _ hk => hk.2) (.int .u32 t453)) (fun _ hk => hk.2) (.int .u32 t454)) (fun _ hk => hk.2) (.int .i64 t455)) (fun _ hk => hk.2) (.int .u32 t456)) (fun _ hk => trivial)), fun _ => (by (with_reducible repeat (first | apply kA | apply kN | apply kD)); exact Kd.R_mono (Kd.R_far (p := ⟨gb458, 7, none⟩) (Kd.R_far (p := ⟨gb458, 6, none⟩) (Kd.R_far (p := ⟨gb458, 5, none⟩) (Kd.R_far (p := ⟨gb458, 4, none⟩) (Kd.R_far (p := ⟨gb458, 3, none⟩) (Kd.R_far (p := ⟨gb458, 2, none⟩) (Kd.R_far (p := ⟨gb458, 1, none⟩) (Kd.R_far (p := ⟨gb458, 0, none⟩) (Kd.R_types HO439.out BK458.out (by decide)) (fun _ hk => hk.2) (.int .u32 t445)) (fun _ hk => hk.2) (.int .i64 t446)) (fun _ hk => hk.2) (.slice Ao49 t447.length co49)) (fun _ hk => hk.2) (.slice Ao51 t450.length co51)) (fun _ hk => hk.2) (.int .u32 t453)) (fun _ hk => hk.2) (.int .u32 t454)) (fun _ hk => hk.2) (.int .i64 t455)) (fun _ hk => hk.2) (.int .u32 t456)) (fun _ hk => trivial)), fun _ => (by (with_reducible repeat (first | apply Kd.S_alloc | apply Kd.S_drewN | apply Kd.S_drew)); exact Kd.S_mono (Kd.S_far (p := ⟨gb458, 7, none⟩) (Kd.S_far (p := ⟨gb458, 6, none⟩) (Kd.S_far (p := ⟨gb458, 5, none⟩) (Kd.S_far (p := ⟨gb458, 4, none⟩) (Kd.S_far (p := ⟨gb458, 3, none⟩) (Kd.S_far (p := ⟨gb458, 2, none⟩) (Kd.S_far (p := ⟨gb458, 1, none⟩) (Kd.S_far (p := ⟨gb458, 0, none⟩) (Kd.S_types HO442.out BK458.out (by decide)) (fun _ hk => hk.2) (.int .u32 t445)) (fun _ hk => hk.2) (.int .i64 t446)) (fun _ hk => hk.2) (.slice Ao49 t447.length co49)) (fun _ hk => hk.2) (.slice Ao51 t450.length co51)) (fun _ hk => hk.2) (.int .u32 t453)) (fun _ hk => hk.2) (.int .u32 t454)) (fun _ hk => hk.2) (.int .i64 t455)) (fun _ hk => hk.2) (.int .u32 t456)) (fun _ hk => trivial)), fun _ => (by (with_reducible repeat (first | apply kA | apply kN | apply kD)); exact Kd.R_mono (Kd.R_far (p := ⟨gb458, 7, none⟩) (Kd.R_far (p := ⟨gb458, 6, none⟩) (Kd.R_far (p := ⟨gb458, 5, none⟩) (Kd.R_far (p := ⟨gb458, 4, none⟩) (Kd.R_far (p := ⟨gb458, 3, none⟩) (Kd.R_far (p := ⟨gb458, 2, none⟩) (Kd.R_far (p := ⟨gb458, 1, none⟩) (Kd.R_far (p := ⟨gb458, 0, none⟩) (Kd.R_types HO449.out BK458.out (by decide)) (fun _ hk => hk.2) (.int .u32 t445)) (fun _ hk => hk.2) (.int .i64 t446)) (fun _ hk => hk.2) (.slice Ao49 t447.length co49)) (fun _ hk => hk.2) (.slice Ao51 t450.length co51)) (fun _ hk => hk.2) (.int .u32 t453)) (fun _ hk => hk.2) (.int .u32 t454)) (fun _ hk => hk.2) (.int .i64 t455)) (fun _ hk => hk.2) (.int .u32 t456)) (fun _ hk => hk.1)), fun _ => (by (with_reducible repeat (first | apply kA | apply kN | apply kD)); exact Kd.R_mono (Kd.R_far (p := ⟨gb458, 7, none⟩) (Kd.R_far (p := ⟨gb458, 6, none⟩) (Kd.R_far (p := ⟨gb458, 5, none⟩) (Kd.R_far (p := ⟨gb458, 4, none⟩) (Kd.R_far (p := ⟨gb458, 3, none⟩) (Kd.R_far (p := ⟨gb458, 2, none⟩) (Kd.R_far (p := ⟨gb458, 1, none⟩) (Kd.R_far (p := ⟨gb458, 0, none⟩) (Kd.R_types HO452.out BK458.out (by decide)) (fun _ hk => hk.2) (.int .u32 t445)) (fun _ hk => hk.2) (.int .i64 t446)) (fun _ hk => hk.2) (.slice Ao49 t447.length co49)) (fun _ hk => hk.2) (.slice Ao51 t450.length co51)) (fun _ hk => hk.2) (.int .u32 t453)) (fun _ hk => hk.2) (.int .u32 t454)) (fun _ hk => hk.2) (.int .i64 t455)) (fun _ hk => hk.2) (.int .u32 t456)) (fun _ hk => hk.1)), fun _ h1_ => absurd ((hon 6 (by kernel_rfl)).symm.trans h1_) (by decide), fun _ => GW457.out, fun _ => GE457.out, fun _ => NB428_457.out, fun _ => NB457_428.out, fun _ => NB429_457.out, fun _ => NB457_429.out, fun _ h1_ => absurd ((up_self b 7).symm.trans h1_) (by decide), fun _ => GW458.out, fun _ => GE458.out, fun _ => NB428_458.out, fun _ => NB458_428.out, fun _ => NB429_458.out, fun _ => NB458_429.out, fun _ => (ub_ BK457.out), fun _ => (ub_ BK458.out), Q_X1_, Q_X3_, Q_X4_, Q_X5_⟩
     exact steps_nil
   rintro b a w56 hall ⟨v435, v438, v441, v448, v451, gb457, gb458, m1_, m3_, m4_, m5_, ha, Q_BK428, Q_BK429, Q_HB, Q_NB458_457, Q_NB457_458, Q_HO436, Q_HO439, Q_HO442, Q_HO449, Q_HO452, Q_BK457, Q_GW457, Q_GE457, Q_NB428_457, Q_NB457_428, Q_NB429_457, Q_NB457_429, Q_BK458, Q_GW458, Q_GE458, Q_NB428_458, Q_NB458_428, Q_NB429_458, Q_NB458_429, Q_BK457_e6, Q_BK458_e7, Q_X1_, Q_X3_, Q_X4_, Q_X5_⟩
   clear BK428 BK429 HB
   have hb0_ := hall 0 (by kernel_rfl)
   have hb1_ := hall 1 (by kernel_rfl)
   have hb2_ := hall 2 (by kernel_rfl)
   have hb3_ := hall 3 (by kernel_rfl)
   have hb4_ := hall 4 (by kernel_rfl)
   have hb5_ := hall 5 (by kernel_rfl)
   have hb6_ := hall 6 (by kernel_rfl)
   have hb7_ := hall 7 (by kernel_rfl)
   subst ha
   obtain rfl := Q_X1_ hb1_
   obtain rfl := Q_X3_ hb3_
   obtain rfl := Q_X4_ hb4_
   obtain rfl := Q_X5_ hb5_
   simp only [putSel, hb0_, hb1_, hb2_, hb3_, hb4_, hb5_, hb6_, hb7_, if_true, Act.put, sT, sZ, sS]
   have BK428 := aM Q_BK428
   clear Q_BK428
   have BK429 := aM Q_BK429
   clear Q_BK429
   have HB := aM Q_HB
   clear Q_HB
   have NB458_457 := aM (Q_NB458_457 hb4_ hb5_)
   clear Q_NB458_457
   have NB457_458 := aM (Q_NB457_458 hb4_ hb5_)
   clear Q_NB457_458
   have HO436 := aM (Q_HO436 hb1_)
   clear Q_HO436
   have HO439 := aM (Q_HO439 hb1_)
   clear Q_HO439
   have HO442 := aM (Q_HO442 hb1_)
   clear Q_HO442
   have HO449 := aM (Q_HO449 hb3_)
   clear Q_HO449
   have HO452 := aM (Q_HO452 hb3_)
   clear Q_HO452
   clear Q_BK457
   have GW457 := aM (Q_GW457 hb4_)
   clear Q_GW457
   have GE457 := aM (Q_GE457 hb4_)
   clear Q_GE457
   have NB428_457 := aM (Q_NB428_457 hb4_)
   clear Q_NB428_457
   have NB457_428 := aM (Q_NB457_428 hb4_)
   clear Q_NB457_428
   have NB429_457 := aM (Q_NB429_457 hb4_)
   clear Q_NB429_457
   have NB457_429 := aM (Q_NB457_429 hb4_)
   clear Q_NB457_429
   clear Q_BK458
   have GW458 := aM (Q_GW458 hb5_)
   clear Q_GW458
   have GE458 := aM (Q_GE458 hb5_)
   clear Q_GE458
   have NB428_458 := aM (Q_NB428_458 hb5_)
   clear Q_NB428_458
   have NB458_428 := aM (Q_NB458_428 hb5_)
   clear Q_NB458_428
   have NB429_458 := aM (Q_NB429_458 hb5_)
   clear Q_NB429_458
   have NB458_429 := aM (Q_NB458_429 hb5_)
   clear Q_NB458_429
   have BK457 := aM (Q_BK457_e6 hb6_)
   clear Q_BK457_e6
   have BK458 := aM (Q_BK458_e7 hb7_)
   clear Q_BK458_e7
   clear hall hb0_ hb1_ hb2_ hb3_ hb4_ hb5_ hb6_ hb7_
   try go_wp2
   replace HO436 := aM (Kd.R_drew HO436.out)
   replace HO439 := aM (Kd.R_drew HO439.out)
   replace HO442 := aM (Kd.S_drew HO442.out)
   replace HO449 := aM (Kd.R_drew HO449.out)
   replace HO452 := aM (Kd.R_drew HO452.out)
   replace BK428 := aM (blk_drew BK428.out)
   replace BK429 := aM (blk_drew BK429.out)
   replace BK457 := aM (blk_drew BK457.out)
   replace BK458 := aM (blk_drew BK458.out)
   replace HB := aM (below_drew1 HB.out)
   obtain ⟨Ao58, co58, eo58⟩ := Kd.R_slice HO436.out
   (first | subst eo58 | (injection eo58 with f1_ f2_ f3_; have f4_ := f1_.symm; have f5_ := f3_.symm; clear f1_ f2_ f3_; subst f4_; subst f5_))
   obtain ⟨Ao59, co59, eo59⟩ := Kd.R_slice HO439.out
   (first | subst eo59 | (injection eo59 with f1_ f2_ f3_; have f4_ := f1_.symm; have f5_ := f3_.symm; clear f1_ f2_ f3_; subst f4_; subst f5_))
   obtain ⟨Ao60, co60, eo60⟩ := Kd.S_slice HO442.out
   (first | subst eo60 | (injection eo60 with f1_ f2_ f3_; have f4_ := f1_.symm; have f5_ := f3_.symm; clear f1_ f2_ f3_; subst f4_; subst f5_))
   refine start_ (n := 26) (S := fun w' => w'.cell? ⟨gb457, 0, none⟩ = some (.int .i64 t433) ∧ w'.cell? ⟨gb457, 1, none⟩ = some (.slice Ao58 t434.length co58) ∧ w'.cell? ⟨gb457, 2, none⟩ = some (.slice Ao59 t437.length co59) ∧ w'.cell? ⟨gb457, 3, none⟩ = some (.slice Ao60 t440.length co60) ∧ w'.cell? ⟨gb457, 4, none⟩ = some (.int .u32 t443) ∧ w'.cell? ⟨gb457, 5, none⟩ = some (.int .u32 t444) ∧ w'.cell? ⟨gb428, 0, none⟩ = some (.int .i64 a0_0) ∧ w'.cell? ⟨gb428, 1, none⟩ = some (.slice A0_1 l0_1.length c0_1) ∧ w'.cell? ⟨gb428, 2, none⟩ = some (.slice A0_2 l0_2.length c0_2) ∧ w'.cell? ⟨gb428, 3, none⟩ = some (.slice A0_3 l0_3.length c0_3) ∧ w'.cell? ⟨gb428, 4, none⟩ = some (.int .u32 a0_4) ∧ w'.cell? ⟨gb428, 5, none⟩ = some (.int .u32 a0_5) ∧ w'.cell? ⟨gb458, 0, none⟩ = some (.int .u32 t445) ∧ w'.cell? ⟨gb458, 1, none⟩ = some (.int .i64 t446) ∧ w'.cell? ⟨gb458, 2, none⟩ = some (v448) ∧ w'.cell? ⟨gb458, 3, none⟩ = some (v451) ∧ w'.cell? ⟨gb458, 4, none⟩ = some (.int .u32 t453) ∧ w'.cell? ⟨gb458, 5, none⟩ = some (.int .u32 t454) ∧ w'.cell? ⟨gb458, 6, none⟩ = some (.int .i64 t455) ∧ w'.cell? ⟨gb458, 7, none⟩ = some (.int .u32 t456) ∧ w'.cell? ⟨gb429, 0, none⟩ = some (.int .u32 a1_0) ∧ w'.cell? ⟨gb429, 1, none⟩ = some (.int .i64 a1_1) ∧ w'.cell? ⟨gb429, 2, none⟩ = some (.slice A1_2 l1_2.length c1_2) ∧ w'.cell? ⟨gb429, 3, none⟩ = some (.slice A1_3 l1_3.length c1_3) ∧ w'.cell? ⟨gb429, 4, none⟩ = some (.int .u32 a1_4) ∧ w'.cell? ⟨gb429, 5, none⟩ = some (.int .u32 a1_5) ∧ w'.cell? ⟨gb429, 6, none⟩ = some (.int .i64 a1_6) ∧ w'.cell? ⟨gb429, 7, none⟩ = some (.int .u32 a1_7)) (ds := []) (tf 0 26) (by kernel_rfl) rfl rfl ⟨(blk_cell BK457.out 0).trans rfl, (blk_cell BK457.out 1).trans rfl, (blk_cell BK457.out 2).trans rfl, (blk_cell BK457.out 3).trans rfl, (blk_cell BK457.out 4).trans rfl, (blk_cell BK457.out 5).trans rfl, (blk_cell BK428.out 0).trans rfl, (blk_cell BK428.out 1).trans rfl, (blk_cell BK428.out 2).trans rfl, (blk_cell BK428.out 3).trans rfl, (blk_cell BK428.out 4).trans rfl, (blk_cell BK428.out 5).trans rfl, (blk_cell BK458.out 0).trans rfl, (blk_cell BK458.out 1).trans rfl, (blk_cell BK458.out 2).trans rfl, (blk_cell BK458.out 3).trans rfl, (blk_cell BK458.out 4).trans rfl, (blk_cell BK458.out 5).trans rfl, (blk_cell BK458.out 6).trans rfl, (blk_cell BK458.out 7).trans rfl, (blk_cell BK429.out 0).trans rfl, (blk_cell BK429.out 1).trans rfl, (blk_cell BK429.out 2).trans rfl, (blk_cell BK429.out 3).trans rfl, (blk_cell BK429.out 4).trans rfl, (blk_cell BK429.out 5).trans rfl, (blk_cell BK429.out 6).trans rfl, (blk_cell BK429.out 7).trans rfl⟩ (fun hHeld => ?_); refine with_tabW dragomanlaw11_CondHolds.tab6 dragomanlaw11_CondHolds.bits6 (fun HT_ HW_ => ?_)
   generalize w56.drew = w57 at HO436 HO439 HO442 HO449 HO452 BK428 BK429 BK457 BK458 HB hHeld ⊢
   refine pT_ 0 (some 19) hHeld ?_
   refine pT_ 2 (some 21) hHeld ?_
   refine pO_ 1 (some 20) (fun K hK => ?_)
   refine gO_ Try.func32 #[.agg #[.int .i64 t433, .slice Ao58 t434.length co58, .slice Ao59 t437.length co59, .slice Ao60 t440.length co60, .int .u32 t443, .int .u32 t444]] rfl rfl ?_
   with_reducible refine (cond_Right.calls kj4 t433 _ _ t434 _ _ t437 _ _ t440 t443 t444 t459 _ ?side1 ?side2 ?side3 ?side4 ?side5 ?side6 A23.out).mono ?_
   (case side1 => exact uc_ (Kd.R_reads' HO436.out).2.2)
   (case side2 => exact (Kd.R_reads' HO436.out).2.1)
   (case side3 => exact uc_ (Kd.R_reads' HO439.out).2.2)
   (case side4 => exact (Kd.R_reads' HO439.out).2.1)
   (case side5 => exact uc_ (Kd.S_reads' HO442.out).2.2)
   (case side6 => exact (Kd.S_reads' HO442.out).2.1)
   rintro e w61 ⟨rfl, hb⟩
   refine ⟨_, rfl, ?_⟩
   replace HO436 := aM (Kd.R_below (uk_ HO436.out) hb)
   replace HO439 := aM (Kd.R_below (uk_ HO439.out) hb)
   replace HO442 := aM (Kd.S_below (us_ HO442.out) hb)
   replace HO449 := aM (Kd.R_below (uk_ HO449.out) hb)
   replace HO452 := aM (Kd.R_below (uk_ HO452.out) hb)
   replace BK428 := bb_ BK428 hb
   replace BK429 := bb_ BK429 hb
   replace BK457 := bb_ BK457 hb
   replace BK458 := bb_ BK458 hb
   replace HB := bs_ HB hb
   (try clear hb)
   (try clear hb2)
   (try clear hk)
   (try clear hi)
   refine hK.out _ _ ⟨(blk_cell BK457.out 0).trans rfl, (blk_cell BK457.out 1).trans rfl, (blk_cell BK457.out 2).trans rfl, (blk_cell BK457.out 3).trans rfl, (blk_cell BK457.out 4).trans rfl, (blk_cell BK457.out 5).trans rfl, (blk_cell BK428.out 0).trans rfl, (blk_cell BK428.out 1).trans rfl, (blk_cell BK428.out 2).trans rfl, (blk_cell BK428.out 3).trans rfl, (blk_cell BK428.out 4).trans rfl, (blk_cell BK428.out 5).trans rfl, (blk_cell BK458.out 0).trans rfl, (blk_cell BK458.out 1).trans rfl, (blk_cell BK458.out 2).trans rfl, (blk_cell BK458.out 3).trans rfl, (blk_cell BK458.out 4).trans rfl, (blk_cell BK458.out 5).trans rfl, (blk_cell BK458.out 6).trans rfl, (blk_cell BK458.out 7).trans rfl, (blk_cell BK429.out 0).trans rfl, (blk_cell BK429.out 1).trans rfl, (blk_cell BK429.out 2).trans rfl, (blk_cell BK429.out 3).trans rfl, (blk_cell BK429.out 4).trans rfl, (blk_cell BK429.out 5).trans rfl, (blk_cell BK429.out 6).trans rfl, (blk_cell BK429.out 7).trans rfl⟩ (fun hHeld => ?_)
   clear hK K
   refine nO_ (some 20) ?_
   refine pO_ 3 (some 22) (fun K hK => ?_)
   refine gO_ Try.func33 #[.agg #[.int .i64 a0_0, .slice A0_1 l0_1.length c0_1, .slice A0_2 l0_2.length c0_2, .slice A0_3 l0_3.length c0_3, .int .u32 a0_4, .int .u32 a0_5]] rfl rfl ?_
   with_reducible refine (dragomanref11_Right.calls kj4 a0_0 _ _ l0_1 _ _ l0_2 _ _ l0_3 a0_4 a0_5 t460 _ ?side1 ?side2 ?side3 ?side4 ?side5 ?side6 A24.out).mono ?_
   (case side1 => exact cB_ HR0_1 HB)
   (case side2 => exact HC0_1.out)
   (case side3 => exact cB_ HR0_2 HB)
   (case side4 => exact HC0_2.out)
   (case side5 => exact cB_ HR0_3 HB)
   (case side6 => exact HC0_3.out)
   rintro e w62 ⟨rfl, hb⟩
   refine ⟨_, rfl, ?_⟩
   replace HO436 := aM (Kd.R_below (uk_ HO436.out) hb)
   replace HO439 := aM (Kd.R_below (uk_ HO439.out) hb)
   replace HO442 := aM (Kd.S_below (us_ HO442.out) hb)
   replace HO449 := aM (Kd.R_below (uk_ HO449.out) hb)
   replace HO452 := aM (Kd.R_below (uk_ HO452.out) hb)
   replace BK428 := bb_ BK428 hb
   replace BK429 := bb_ BK429 hb
   replace BK457 := bb_ BK457 hb
   replace BK458 := bb_ BK458 hb
   replace HB := bs_ HB hb
   (try clear hb)
   (try clear hb2)
   (try clear hk)
   (try clear hi)
   obtain ⟨Ao63, co63, eo63⟩ := Kd.R_slice HO449.out
   (first | subst eo63 | (injection eo63 with f1_ f2_ f3_; have f4_ := f1_.symm; have f5_ := f3_.symm; clear f1_ f2_ f3_; subst f4_; subst f5_))
   obtain ⟨Ao64, co64, eo64⟩ := Kd.R_slice HO452.out
   (first | subst eo64 | (injection eo64 with f1_ f2_ f3_; have f4_ := f1_.symm; have f5_ := f3_.symm; clear f1_ f2_ f3_; subst f4_; subst f5_))
   refine hK.out _ _ ⟨(blk_cell BK457.out 0).trans rfl, (blk_cell BK457.out 1).trans rfl, (blk_cell BK457.out 2).trans rfl, (blk_cell BK457.out 3).trans rfl, (blk_cell BK457.out 4).trans rfl, (blk_cell BK457.out 5).trans rfl, (blk_cell BK428.out 0).trans rfl, (blk_cell BK428.out 1).trans rfl, (blk_cell BK428.out 2).trans rfl, (blk_cell BK428.out 3).trans rfl, (blk_cell BK428.out 4).trans rfl, (blk_cell BK428.out 5).trans rfl, (blk_cell BK458.out 0).trans rfl, (blk_cell BK458.out 1).trans rfl, (blk_cell BK458.out 2).trans rfl, (blk_cell BK458.out 3).trans rfl, (blk_cell BK458.out 4).trans rfl, (blk_cell BK458.out 5).trans rfl, (blk_cell BK458.out 6).trans rfl, (blk_cell BK458.out 7).trans rfl, (blk_cell BK429.out 0).trans rfl, (blk_cell BK429.out 1).trans rfl, (blk_cell BK429.out 2).trans rfl, (blk_cell BK429.out 3).trans rfl, (blk_cell BK429.out 4).trans rfl, (blk_cell BK429.out 5).trans rfl, (blk_cell BK429.out 6).trans rfl, (blk_cell BK429.out 7).trans rfl⟩ (fun hHeld => ?_)
   clear hK K
   refine nO_ (some 22) ?_
   refine pA_ 4 (some 23) ?_
   refine pA_ 5 (some 24) ?_
   refine pT_ 6 (some 25) hHeld ?_
   refine pT_ 7 (some 26) hHeld ?_
   refine pT_ 9 (some 28) hHeld ?_
   refine pT_ 10 (some 29) hHeld ?_
   refine pO_ 8 (some 27) (fun K hK => ?_)
   refine gO_ Try.func34 #[.agg #[.int .i64 t433, .slice Ao58 t434.length co58, .slice Ao59 t437.length co59, .slice Ao60 t440.length co60, .int .u32 t443, .int .u32 t444], .agg #[.int .u32 t445, .int .i64 t446, .slice Ao63 t447.length co63, .slice Ao64 t450.length co64, .int .u32 t453, .int .u32 t454, .int .i64 t455, .int .u32 t456]] rfl rfl ?_
   with_reducible refine (cond_Holds.calls kj4 t433 _ _ t434 _ _ t437 _ _ t440 t443 t444 t445 t446 _ _ t447 _ _ t450 t453 t454 t455 t456 t461 _ ?side1 ?side2 ?side3 ?side4 ?side5 ?side6 ?side7 ?side8 ?side9 ?side10 A26.out).mono ?_
   (case side1 => exact uc_ (Kd.R_reads' HO436.out).2.2)
   (case side2 => exact (Kd.R_reads' HO436.out).2.1)
   (case side3 => exact uc_ (Kd.R_reads' HO439.out).2.2)
   (case side4 => exact (Kd.R_reads' HO439.out).2.1)
   (case side5 => exact uc_ (Kd.S_reads' HO442.out).2.2)
   (case side6 => exact (Kd.S_reads' HO442.out).2.1)
   (case side7 => exact uc_ (Kd.R_reads' HO449.out).2.2)
   (case side8 => exact (Kd.R_reads' HO449.out).2.1)
   (case side9 => exact uc_ (Kd.R_reads' HO452.out).2.2)
   (case side10 => exact (Kd.R_reads' HO452.out).2.1)
   rintro e w65 ⟨rfl, hb⟩
   refine ⟨_, rfl, ?_⟩
   replace HO436 := aM (Kd.R_below (uk_ HO436.out) hb)
   replace HO439 := aM (Kd.R_below (uk_ HO439.out) hb)
   replace HO442 := aM (Kd.S_below (us_ HO442.out) hb)
   replace HO449 := aM (Kd.R_below (uk_ HO449.out) hb)
   replace HO452 := aM (Kd.R_below (uk_ HO452.out) hb)
   replace BK428 := bb_ BK428 hb
   replace BK429 := bb_ BK429 hb
   replace BK457 := bb_ BK457 hb
   replace BK458 := bb_ BK458 hb
   replace HB := bs_ HB hb
   (try clear hb)
   (try clear hb2)
   (try clear hk)
   (try clear hi)
   refine hK.out _ _ ⟨(blk_cell BK457.out 0).trans rfl, (blk_cell BK457.out 1).trans rfl, (blk_cell BK457.out 2).trans rfl, (blk_cell BK457.out 3).trans rfl, (blk_cell BK457.out 4).trans rfl, (blk_cell BK457.out 5).trans rfl, (blk_cell BK428.out 0).trans rfl, (blk_cell BK428.out 1).trans rfl, (blk_cell BK428.out 2).trans rfl, (blk_cell BK428.out 3).trans rfl, (blk_cell BK428.out 4).trans rfl, (blk_cell BK428.out 5).trans rfl, (blk_cell BK458.out 0).trans rfl, (blk_cell BK458.out 1).trans rfl, (blk_cell BK458.out 2).trans rfl, (blk_cell BK458.out 3).trans rfl, (blk_cell BK458.out 4).trans rfl, (blk_cell BK458.out 5).trans rfl, (blk_cell BK458.out 6).trans rfl, (blk_cell BK458.out 7).trans rfl, (blk_cell BK429.out 0).trans rfl, (blk_cell BK429.out 1).trans rfl, (blk_cell BK429.out 2).trans rfl, (blk_cell BK429.out 3).trans rfl, (blk_cell BK429.out 4).trans rfl, (blk_cell BK429.out 5).trans rfl, (blk_cell BK429.out 6).trans rfl, (blk_cell BK429.out 7).trans rfl⟩ (fun hHeld => ?_)
   clear hK K
   refine nO_ (some 27) ?_
   refine pO_ 11 (some 30) (fun K hK => ?_)
   refine gO_ Try.func35 #[.agg #[.int .i64 a0_0, .slice A0_1 l0_1.length c0_1, .slice A0_2 l0_2.length c0_2, .slice A0_3 l0_3.length c0_3, .int .u32 a0_4, .int .u32 a0_5], .agg #[.int .u32 a1_0, .int .i64 a1_1, .slice A1_2 l1_2.length c1_2, .slice A1_3 l1_3.length c1_3, .int .u32 a1_4, .int .u32 a1_5, .int .i64 a1_6, .int .u32 a1_7]] rfl rfl ?_
   with_reducible refine (dragomanref11_Holds.calls kj4 a0_0 _ _ l0_1 _ _ l0_2 _ _ l0_3 a0_4 a0_5 a1_0 a1_1 _ _ l1_2 _ _ l1_3 a1_4 a1_5 a1_6 a1_7 t462 _ ?side1 ?side2 ?side3 ?side4 ?side5 ?side6 ?side7 ?side8 ?side9 ?side10 A27.out).mono ?_
   (case side1 => exact cB_ HR0_1 HB)
   (case side2 => exact HC0_1.out)
   (case side3 => exact cB_ HR0_2 HB)
   (case side4 => exact HC0_2.out)
   (case side5 => exact cB_ HR0_3 HB)
   (case side6 => exact HC0_3.out)
   (case side7 => exact cB_ HR1_2 HB)
   (case side8 => exact HC1_2.out)
   (case side9 => exact cB_ HR1_3 HB)
   (case side10 => exact HC1_3.out)
   rintro e w66 ⟨rfl, hb⟩
   refine ⟨_, rfl, ?_⟩
   replace HO436 := aM (Kd.R_below (uk_ HO436.out) hb)
   replace HO439 := aM (Kd.R_below (uk_ HO439.out) hb)
   replace HO442 := aM (Kd.S_below (us_ HO442.out) hb)
   replace HO449 := aM (Kd.R_below (uk_ HO449.out) hb)
   replace HO452 := aM (Kd.R_below (uk_ HO452.out) hb)
   replace BK428 := bb_ BK428 hb
   replace BK429 := bb_ BK429 hb
   replace BK457 := bb_ BK457 hb
   replace BK458 := bb_ BK458 hb
   replace HB := bs_ HB hb
   (try clear hb)
   (try clear hb2)
   (try clear hk)
   (try clear hi)
   refine hK.out _ _ ⟨(blk_cell BK457.out 0).trans rfl, (blk_cell BK457.out 1).trans rfl, (blk_cell BK457.out 2).trans rfl, (blk_cell BK457.out 3).trans rfl, (blk_cell BK457.out 4).trans rfl, (blk_cell BK457.out 5).trans rfl, (blk_cell BK428.out 0).trans rfl, (blk_cell BK428.out 1).trans rfl, (blk_cell BK428.out 2).trans rfl, (blk_cell BK428.out 3).trans rfl, (blk_cell BK428.out 4).trans rfl, (blk_cell BK428.out 5).trans rfl, (blk_cell BK458.out 0).trans rfl, (blk_cell BK458.out 1).trans rfl, (blk_cell BK458.out 2).trans rfl, (blk_cell BK458.out 3).trans rfl, (blk_cell BK458.out 4).trans rfl, (blk_cell BK458.out 5).trans rfl, (blk_cell BK458.out 6).trans rfl, (blk_cell BK458.out 7).trans rfl, (blk_cell BK429.out 0).trans rfl, (blk_cell BK429.out 1).trans rfl, (blk_cell BK429.out 2).trans rfl, (blk_cell BK429.out 3).trans rfl, (blk_cell BK429.out 4).trans rfl, (blk_cell BK429.out 5).trans rfl, (blk_cell BK429.out 6).trans rfl, (blk_cell BK429.out 7).trans rfl⟩ (fun hHeld => ?_)
   clear hK K
   refine nO_ (some 30) ?_
   refine pA_ 12 (some 31) ?_
   refine pA_ 13 (some 32) ?_
   refine pA_ 14 (some 33) ?_
   refine pT_ 15 (some 34) hHeld ?_
   refine pT_ 16 (some 35) hHeld ?_
   refine pO_ 17 (some 36) (fun K hK => ?_)
   refine gO_ Try.func36 #[.agg #[.int .i64 t433, .slice Ao58 t434.length co58, .slice Ao59 t437.length co59, .slice Ao60 t440.length co60, .int .u32 t443, .int .u32 t444], .agg #[.int .i64 a0_0, .slice A0_1 l0_1.length c0_1, .slice A0_2 l0_2.length c0_2, .slice A0_3 l0_3.length c0_3, .int .u32 a0_4, .int .u32 a0_5]] rfl rfl ?_
   with_reducible refine (dragomanref11_Same.calls kj4 t433 _ _ t434 _ _ t437 _ _ t440 t443 t444 a0_0 _ _ l0_1 _ _ l0_2 _ _ l0_3 a0_4 a0_5 true _ ?side1 ?side2 ?side3 ?side4 ?side5 ?side6 ?side7 ?side8 ?side9 ?side10 ?side11 ?side12 A29.out).mono ?_
   (case side1 => exact uc_ (Kd.R_reads' HO436.out).2.2)
   (case side2 => exact (Kd.R_reads' HO436.out).2.1)
   (case side3 => exact uc_ (Kd.R_reads' HO439.out).2.2)
   (case side4 => exact (Kd.R_reads' HO439.out).2.1)
   (case side5 => exact uc_ (Kd.S_reads' HO442.out).2.2)
   (case side6 => exact (Kd.S_reads' HO442.out).2.1)
   (case side7 => exact cB_ HR0_1 HB)
   (case side8 => exact HC0_1.out)
   (case side9 => exact cB_ HR0_2 HB)
   (case side10 => exact HC0_2.out)
   (case side11 => exact cB_ HR0_3 HB)
   (case side12 => exact HC0_3.out)
   rintro e w67 ⟨rfl, hb⟩
   refine ⟨_, rfl, ?_⟩
   replace HO436 := aM (Kd.R_below (uk_ HO436.out) hb)
   replace HO439 := aM (Kd.R_below (uk_ HO439.out) hb)
   replace HO442 := aM (Kd.S_below (us_ HO442.out) hb)
   replace HO449 := aM (Kd.R_below (uk_ HO449.out) hb)
   replace HO452 := aM (Kd.R_below (uk_ HO452.out) hb)
   replace BK428 := bb_ BK428 hb
   replace BK429 := bb_ BK429 hb
   replace BK457 := bb_ BK457 hb
   replace BK458 := bb_ BK458 hb
   replace HB := bs_ HB hb
   (try clear hb)
   (try clear hb2)
   (try clear hk)
   (try clear hi)
   refine hK.out _ _ ⟨(blk_cell BK457.out 0).trans rfl, (blk_cell BK457.out 1).trans rfl, (blk_cell BK457.out 2).trans rfl, (blk_cell BK457.out 3).trans rfl, (blk_cell BK457.out 4).trans rfl, (blk_cell BK457.out 5).trans rfl, (blk_cell BK428.out 0).trans rfl, (blk_cell BK428.out 1).trans rfl, (blk_cell BK428.out 2).trans rfl, (blk_cell BK428.out 3).trans rfl, (blk_cell BK428.out 4).trans rfl, (blk_cell BK428.out 5).trans rfl, (blk_cell BK458.out 0).trans rfl, (blk_cell BK458.out 1).trans rfl, (blk_cell BK458.out 2).trans rfl, (blk_cell BK458.out 3).trans rfl, (blk_cell BK458.out 4).trans rfl, (blk_cell BK458.out 5).trans rfl, (blk_cell BK458.out 6).trans rfl, (blk_cell BK458.out 7).trans rfl, (blk_cell BK429.out 0).trans rfl, (blk_cell BK429.out 1).trans rfl, (blk_cell BK429.out 2).trans rfl, (blk_cell BK429.out 3).trans rfl, (blk_cell BK429.out 4).trans rfl, (blk_cell BK429.out 5).trans rfl, (blk_cell BK429.out 6).trans rfl, (blk_cell BK429.out 7).trans rfl⟩ (fun hHeld => ?_)
   clear hK K
   refine nO_ (some 36) ?_
   refine pA_ 18 (some 37) ?_
   refine pA_ 19 (some 38) ?_
   refine pT_ 20 (some 39) hHeld ?_
   refine pT_ 21 (some 40) hHeld ?_
   refine pO_ 22 (some 41) (fun K hK => ?_)
   refine gO_ Try.func37 #[.agg #[.int .u32 t445, .int .i64 t446, .slice Ao63 t447.length co63, .slice Ao64 t450.length co64, .int .u32 t453, .int .u32 t454, .int .i64 t455, .int .u32 t456], .agg #[.int .u32 a1_0, .int .i64 a1_1, .slice A1_2 l1_2.length c1_2, .slice A1_3 l1_3.length c1_3, .int .u32 a1_4, .int .u32 a1_5, .int .i64 a1_6, .int .u32 a1_7]] rfl rfl ?_
   with_reducible refine (r3_Cmp.calls kj4 t445 t446 _ _ t447 _ _ t450 t453 t454 t455 t456 a1_0 a1_1 _ _ l1_2 _ _ l1_3 a1_4 a1_5 a1_6 a1_7 t464 _ ?side1 ?side2 ?side3 ?side4 ?side5 ?side6 ?side7 ?side8 A31.out).mono ?_
   (case side1 => exact uc_ (Kd.R_reads' HO449.out).2.2)
   (case side2 => exact (Kd.R_reads' HO449.out).2.1)
   (case side3 => exact uc_ (Kd.R_reads' HO452.out).2.2)
   (case side4 => exact (Kd.R_reads' HO452.out).2.1)
   (case side5 => exact cB_ HR1_2 HB)
   (case side6 => exact HC1_2.out)
   (case side7 => exact cB_ HR1_3 HB)
   (case side8 => exact HC1_3.out)
   rintro e w68 ⟨rfl, hb⟩
   refine ⟨_, rfl, ?_⟩
   replace HO436 := aM (Kd.R_below (uk_ HO436.out) hb)
   replace HO439 := aM (Kd.R_below (uk_ HO439.out) hb)
   replace HO442 := aM (Kd.S_below (us_ HO442.out) hb)
   replace HO449 := aM (Kd.R_below (uk_ HO449.out) hb)
   replace HO452 := aM (Kd.R_below (uk_ HO452.out) hb)
   replace BK428 := bb_ BK428 hb
   replace BK429 := bb_ BK429 hb
   replace BK457 := bb_ BK457 hb
   replace BK458 := bb_ BK458 hb
   replace HB := bs_ HB hb
   (try clear hb)
   (try clear hb2)
   (try clear hk)
   (try clear hi)
   refine hK.out _ _ ⟨(blk_cell BK457.out 0).trans rfl, (blk_cell BK457.out 1).trans rfl, (blk_cell BK457.out 2).trans rfl, (blk_cell BK457.out 3).trans rfl, (blk_cell BK457.out 4).trans rfl, (blk_cell BK457.out 5).trans rfl, (blk_cell BK428.out 0).trans rfl, (blk_cell BK428.out 1).trans rfl, (blk_cell BK428.out 2).trans rfl, (blk_cell BK428.out 3).trans rfl, (blk_cell BK428.out 4).trans rfl, (blk_cell BK428.out 5).trans rfl, (blk_cell BK458.out 0).trans rfl, (blk_cell BK458.out 1).trans rfl, (blk_cell BK458.out 2).trans rfl, (blk_cell BK458.out 3).trans rfl, (blk_cell BK458.out 4).trans rfl, (blk_cell BK458.out 5).trans rfl, (blk_cell BK458.out 6).trans rfl, (blk_cell BK458.out 7).trans rfl, (blk_cell BK429.out 0).trans rfl, (blk_cell BK429.out 1).trans rfl, (blk_cell BK429.out 2).trans rfl, (blk_cell BK429.out 3).trans rfl, (blk_cell BK429.out 4).trans rfl, (blk_cell BK429.out 5).trans rfl, (blk_cell BK429.out 6).trans rfl, (blk_cell BK429.out 7).trans rfl⟩ (fun hHeld => ?_)
   clear hK K
   refine nO_ (some 41) ?_
   refine pA_ 23 (some 42) ?_
   refine pA_ 24 (some 43) ?_
   refine pA_ 25 (some 4) ?_
   refine done_ (done_of HT_.out (by kernel_rfl)) ?_
   try go_wp2
   first | go_ret | refine ⟨_, results_tmp rfl _ _ _, ?_⟩
   exact fin_ HB
end Go.Proofs.Ytlkjfjlmjgkheaa.H
