import Derived.Test.YtlkjfjlmjgkheaaGx0
import Derived.Test.YtlkjfjlmjgkheaaGx3
import Derived.Test.YtlkjfjlmjgkheaaGx6
import Derived.Test.YtlkjfjlmjgkheaaGx9
import Derived.Test.YtlkjfjlmjgkheaaGx10
import Derived.Test.YtlkjfjlmjgkheaaGx12
import Derived.Test.YtlkjfjlmjgkheaaGx14
import Derived.Test.YtlkjfjlmjgkheaaGx15
import Derived.Test.YtlkjfjlmjgkheaaGx16
namespace Go.Proofs.Ytlkjfjlmjgkheaa.G
open Go.RowKit Go.Proofs.YtlkjfjlmjgkheaaW.PrintWords Go.Proofs.YtlkjfjlmjgkheaaW.PrintLast Go.Proofs.YtlkjfjlmjgkheaaW.PrintMore
attribute [local go_sem] max2_int min2_int max_two min_two max_three min_three max_four min_four
set_option linter.unusedVariables false
set_option linter.unusedSimpArgs false
def l5_PatMatches.j0 : Nat → List Int → Bool → Int → List (S66) → List (S25) → Option (Bool)
 | 0, _, _, _, _, _ => none
 | k + 1, x1, x15, x389000, x389001, x389002 => if x15 = true then (some true) else ((r5_Copy.f k x389000 x389001 x389002).bind fun bt391 => ((some (([] : List Int) : List Int)).bind fun y398 => (if y398.length + x1.length < 35184372088832 then ((some (y398 ++ x1 : List Int)).bind fun y401 => ((pat_Right.f k bt391.1 bt391.2.1 bt391.2.2).bind fun t405 => ((r5_Right.f k x389000 x389001 x389002).bind fun t406 => (if (t405 == t406) = true then ((pat_Match.f k bt391.1 bt391.2.1 bt391.2.2 y401).bind fun t407 => ((r5_Takes.f k x389000 x389001 x389002 x1).bind fun t408 => (if (t407 == t408) = true then ((pat_Empty.f k bt391.1 bt391.2.1 bt391.2.2).bind fun t409 => ((r5_Takes.f k x389000 x389001 x389002 ([] : List Int)).bind fun t410 => (if (t409 == t410) = true then ((r5_Same.f k bt391.1 bt391.2.1 bt391.2.2 x389000 x389001 x389002).bind fun t411 => (if t411 = true then ((r1_Nums.f k y401 x1).bind fun t412 => (some t412)) else (none))) else (none)))) else (none)))) else (none))))) else (none))))
def l5_PatMatches.f (k : Nat) (a0_0 : Int) (l0_1 : List (S66)) (l0_2 : List (S25)) (l1 : List Int) : Option (Bool) := (l5_alive.f k).bind fun t389 => (if t389 = true then ((r5_Great.f k a0_0 l0_1 l0_2).bind fun t390 => (if t390 = true then (l5_PatMatches.j0 k l1 true a0_0 l0_1 l0_2) else (l5_PatMatches.j0 k l1 (decide ((l1.length : Int) > 300)) a0_0 l0_1 l0_2))) else (none))
def l5_PatMatches.T6 : Bool × List (List Nat × List Nat) := (true, [([], []), ([0], [0]), ([], []), ([2, 1], [2]), ([1, 3], [1, 3]), ([4, 3], [4]), ([5], [5]), ([5], [5]), ([6, 7, 5, 5], [5, 6, 7]), ([5], [5]), ([5], [5]), ([9, 10, 8, 5], [5, 9, 10]), ([8, 11, 5], [5, 8, 11]), ([5, 12], [5, 12]), ([13, 11], [13]), ([14], [14]), ([15, 14, 14], [14, 15]), ([14], [14]), ([17, 16, 14], [14, 17]), ([16, 18, 14], [14, 16, 18]), ([14, 19], [14, 19]), ([20, 18], [20]), ([21], [21]), ([21], [21]), ([22, 23, 21, 21], [21, 22, 23]), ([21, 24], [21, 24]), ([25, 24], [25]), ([26], [26]), ([26], [26]), ([27, 28, 26, 26], [26, 27, 28]), ([26, 29], [26, 29]), ([30, 29, 0, 1, 2, 3, 4, 5, 6, 7, 8, 9, 10, 11, 12, 13, 14, 15, 16, 17, 18, 19, 20, 21, 22, 23, 24, 25, 26, 27, 28, 29, 30], [30])])
def l5_PatMatches.B6 : List Nat := [0, 1, 0, 7, 15, 31, 63, 63, 255, 63, 63, 2047, 4095, 8191, 16383, 32767, 65535, 32767, 262143, 524287, 1048575, 2097151, 4194303, 4194303, 16777215, 33554431, 67108863, 134217727, 134217727, 536870911, 1073741823, 2147483647]
theorem l5_PatMatches.tab6 : rtab .any (opsOf Try.f3 6) = l5_PatMatches.T6 := by kernel_rfl
theorem l5_PatMatches.bits6 : waitsOk l5_PatMatches.T6.2 l5_PatMatches.B6 = true := by kernel_rfl
set_option maxHeartbeats 8000000 in
set_option maxRecDepth 100000 in
theorem l5_PatMatches.calls (k : Nat) (a0_0 : Int) (A0_1 : Option Addr) (c0_1 : Nat) (l0_1 : List (S66)) (A0_2 : Option Addr) (c0_2 : Nat) (l0_2 : List (S25)) (A1 : Option Addr) (c1 : Nat) (l1 : List Int) (r : Bool) (w : World) (hr0_1 : Kd.C k66 w A0_1 l0_1.length l0_1) (hc0_1 : l0_1.length ≤ c0_1) (hr0_2 : Kd.C k25 w A0_2 l0_2.length l0_2) (hc0_2 : l0_2.length ≤ c0_2) (hr1 : Kd.C (Kd.int .u32) w A1 l1.length l1) (hc1 : l1.length ≤ c1) (h : l5_PatMatches.f k a0_0 l0_1 l0_2 l1 = some r) :
 Calls Try.prog 3 #[.agg #[.int .i64 a0_0, .slice A0_1 l0_1.length c0_1, .slice A0_2 l0_2.length c0_2], .slice A1 l1.length c1] w fun e w' => e = .returned (.bool r) ∧ Below w.heap.size w w' := by
 have hu25 := Try.underlying25
 have HR0_1 := aM hr0_1
 have HC0_1 := aM hc0_1
 clear hr0_1 hc0_1
 have HR0_2 := aM hr0_2
 have HC0_2 := aM hc0_2
 clear hr0_2 hc0_2
 have HR1 := aM hr1
 have HC1 := aM hc1
 clear hr1 hc1
 have HB := aM (Below.refl w.heap.size w)
 have H : ((l5_alive.f k).bind fun t389 => (if t389 = true then ((r5_Great.f k a0_0 l0_1 l0_2).bind fun t390 => (if t390 = true then (l5_PatMatches.j0 k l1 true a0_0 l0_1 l0_2) else (l5_PatMatches.j0 k l1 (decide ((l1.length : Int) > 300)) a0_0 l0_1 l0_2))) else (none))) = some r := h
 clear h
 replace H := Option.bind_eq_some_iff.mp H
 obtain ⟨t389, A30, H⟩ := H
 replace H : (if t389 = true then ((r5_Great.f k a0_0 l0_1 l0_2).bind fun t390 => (if t390 = true then (l5_PatMatches.j0 k l1 true a0_0 l0_1 l0_2) else (l5_PatMatches.j0 k l1 (decide ((l1.length : Int) > 300)) a0_0 l0_1 l0_2))) else (none)) = some r := H
 have A3 := aM A30
 clear A30
 by_cases c4 : t389 = true
 · subst c4
   have H1 : ((r5_Great.f k a0_0 l0_1 l0_2).bind fun t390 => (if t390 = true then (l5_PatMatches.j0 k l1 true a0_0 l0_1 l0_2) else (l5_PatMatches.j0 k l1 (decide ((l1.length : Int) > 300)) a0_0 l0_1 l0_2))) = some r := by rw [if_pos rfl] at H; exact H
   clear H
   have H := H1
   clear H1
   have HC5 := aM H
   clear H
   go_enter Try.func3, Try.ntmps3
   go_upto_region 3 with (first | ((with_reducible refine gate_dst (N := 2) rfl ?_); (try (refine gate_guard (by rfl) ?_; dsimp only)); refine box_event ?hg (N := 2) ?hd (cs := #[.int .i64 a0_0, .slice A0_1 l0_1.length c0_1, .slice A0_2 l0_2.length c0_2]) (t := 25) ?hr ?_; (case hd => rfl); (case hg => rfl); (case hr => first | (go_simp; done) | (go_simp; rfl)); intro gb388 hg w6 hbox hb; have n0_ := aM (below_step (by repeat (first | (with_reducible first | exact HB.out | apply blA | apply blN | apply blD) | exact HB.out)) hb); have n1_ := aM (hbox); have n2_ := aM ((by rw [hg]; exact (below_size (by repeat (first | (with_reducible first | exact HB.out | apply blA | apply blN | apply blD) | exact HB.out))) : w.heap.size ≤ gb388)); have n3_ := aM ((by rw [hg]; exact (below_size (by repeat (first | (with_reducible first | exact HB.out | apply blA | apply blN | apply blD) | exact HB.out))) : w.heap.size ≤ gb388)); clear HB; have HB := n0_; have BK388 := n1_; have GW388 := n2_; have GE388 := n3_; clear n0_ n1_ n2_ n3_; clear hb hbox hg) | ((with_reducible refine gate_callee (f := 13) rfl ?_); refine goesL_ (some 7) rfl rfl Try.func13 (by kernel_rfl) rfl #[] rfl (by (try simp only [List.map_toArray, List.map_cons, List.map_nil]); first | done | rfl | (simp only [List.length_drop, List.length_take]; rfl)) ?_; (with_reducible refine (l5_alive.calls k  true _ A3.out).mono ?_); rintro e w7 ⟨rfl, hb⟩; refine ⟨_, rfl, ?_⟩; have n0_ := aM (blk_below (g := gb388) (o := .cells #[.int .i64 a0_0, .slice A0_1 l0_1.length c0_1, .slice A0_2 l0_2.length c0_2] 25 (0, 0)) (by (with_reducible repeat (first | apply bkN | apply bkD | apply bkA)); exact BK388.out) hb); have n1_ := aM (below_step (by repeat (first | (with_reducible first | exact HB.out | apply blA | apply blN | apply blD | refine bS ?_ GE388.out) | exact HB.out)) hb); clear BK388; clear HB; have BK388 := n0_; have HB := n1_; clear n0_ n1_; (try clear hb); (try clear hb2); (try clear hk); (try clear hi)))
   (try simp only [Act.put, List.setIfInBounds_toArray, List.set_cons_zero, List.set_cons_succ])
   go_cut [15] (fun v15 wc => ∃ (kq : Nat) (x15_4 : Bool), v15 = .bool x15_4 ∧ Aside0 (l5_PatMatches.j0 kq l1 x15_4 a0_0 l0_1 l0_2 = some r) ∧ Aside0 (kq ≤ k) ∧ Aside0 (wc.heap[gb388]? = some (.cells #[.int .i64 a0_0, (.slice A0_1 l0_1.length c0_1), (.slice A0_2 l0_2.length c0_2)] 25 (0, 0))) ∧ Aside0 (Below w.heap.size w wc))
   case first =>
    have H := HC5.out
    clear HC5
    replace H := Option.bind_eq_some_iff.mp H
    obtain ⟨t390, A80, H⟩ := H
    replace H : (if t390 = true then (l5_PatMatches.j0 k l1 true a0_0 l0_1 l0_2) else (l5_PatMatches.j0 k l1 (decide ((l1.length : Int) > 300)) a0_0 l0_1 l0_2)) = some r := H
    have A8 := aM A80
    clear A80
    by_cases c9 : t390 = true
    · subst c9
      have H1 : (l5_PatMatches.j0 k l1 true a0_0 l0_1 l0_2) = some r := by rw [if_pos rfl] at H; exact H
      clear H
      have H := H1
      clear H1
      have H' := aM H
      clear H
      have hcz10_0 : w7.cell? ⟨gb388, 0, none⟩ = some (.int .i64 a0_0) := (blk_cell BK388.out 0).trans rfl
      have hcz10_1 : w7.cell? ⟨gb388, 1, none⟩ = some (.slice A0_1 l0_1.length c0_1) := (blk_cell BK388.out 1).trans rfl
      have hcz10_2 : w7.cell? ⟨gb388, 2, none⟩ = some (.slice A0_2 l0_2.length c0_2) := (blk_cell BK388.out 2).trans rfl
      have hfz10_0 := bF BK388.out 0
      have hfz10_1 := bF BK388.out 1
      have hfz10_2 := bF BK388.out 2
      go_wp2_with (first | ((with_reducible refine gate_callee (f := 14) rfl ?_); refine goesL_ (some 10) rfl rfl Try.func14 (by kernel_rfl) rfl #[.agg #[.int .i64 a0_0, .slice A0_1 l0_1.length c0_1, .slice A0_2 l0_2.length c0_2]] rfl (by (try simp only [List.map_toArray, List.map_cons, List.map_nil]); first | done | rfl | (simp only [List.length_drop, List.length_take]; rfl)) ?_; (with_reducible refine (r5_Great.calls k a0_0 _ _ l0_1 _ _ l0_2 true _ ?side1 ?side2 ?side3 ?side4 A8.out).mono ?_); (case side1 => repeat (first | exact (Kd.C_below HR0_1.out HB.out) | (with_reducible refine Kd.C_alloc ?_ _) | (with_reducible refine Kd.C_drewN ?_ _) | (with_reducible refine Kd.C_drew ?_))); (case side2 => exact HC0_1.out); (case side3 => repeat (first | exact (Kd.C_below HR0_2.out HB.out) | (with_reducible refine Kd.C_alloc ?_ _) | (with_reducible refine Kd.C_drewN ?_ _) | (with_reducible refine Kd.C_drew ?_))); (case side4 => exact HC0_2.out); rintro e w11 ⟨rfl, hb⟩; refine ⟨_, rfl, ?_⟩; have n0_ := aM (blk_below (g := gb388) (o := .cells #[.int .i64 a0_0, .slice A0_1 l0_1.length c0_1, .slice A0_2 l0_2.length c0_2] 25 (0, 0)) (by (with_reducible repeat (first | apply bkN | apply bkD | apply bkA)); exact BK388.out) hb); have n1_ := aM (below_step (by repeat (first | (with_reducible first | exact HB.out | apply blA | apply blN | apply blD | refine bS ?_ GE388.out) | exact HB.out)) hb); clear BK388; clear HB; have BK388 := n0_; have HB := n1_; clear n0_ n1_; (try clear hb); (try clear hb2); (try clear hk); (try clear hi)))
      go_meet
      case rel => exact ⟨_, (true), (by first | rfl | (simp; done) | (simp [*]; done)), H', ⟨by first | omega | exact Nat.le_refl _⟩, ⟨by (with_reducible repeat (first | apply bkN | apply bkD | apply bkA)); exact BK388.out⟩, ⟨by repeat (first | (with_reducible first | exact HB.out | apply blA | apply blN | apply blD | refine bS ?_ GE388.out) | exact HB.out)⟩⟩
    · replace c9 := Bool.eq_false_iff.mpr c9
      subst c9
      have H1 : (l5_PatMatches.j0 k l1 (decide ((l1.length : Int) > 300)) a0_0 l0_1 l0_2) = some r := by rw [if_neg (show ¬ (false = true) by decide)] at H; exact H
      clear H
      have H := H1
      clear H1
      have H' := aM H
      clear H
      have hcz12_0 : w7.cell? ⟨gb388, 0, none⟩ = some (.int .i64 a0_0) := (blk_cell BK388.out 0).trans rfl
      have hcz12_1 : w7.cell? ⟨gb388, 1, none⟩ = some (.slice A0_1 l0_1.length c0_1) := (blk_cell BK388.out 1).trans rfl
      have hcz12_2 : w7.cell? ⟨gb388, 2, none⟩ = some (.slice A0_2 l0_2.length c0_2) := (blk_cell BK388.out 2).trans rfl
      have hfz12_0 := bF BK388.out 0
      have hfz12_1 := bF BK388.out 1
      have hfz12_2 := bF BK388.out 2
      go_wp2_with (first | ((with_reducible refine gate_callee (f := 14) rfl ?_); refine goesL_ (some 10) rfl rfl Try.func14 (by kernel_rfl) rfl #[.agg #[.int .i64 a0_0, .slice A0_1 l0_1.length c0_1, .slice A0_2 l0_2.length c0_2]] rfl (by (try simp only [List.map_toArray, List.map_cons, List.map_nil]); first | done | rfl | (simp only [List.length_drop, List.length_take]; rfl)) ?_; (with_reducible refine (r5_Great.calls k a0_0 _ _ l0_1 _ _ l0_2 false _ ?side1 ?side2 ?side3 ?side4 A8.out).mono ?_); (case side1 => repeat (first | exact (Kd.C_below HR0_1.out HB.out) | (with_reducible refine Kd.C_alloc ?_ _) | (with_reducible refine Kd.C_drewN ?_ _) | (with_reducible refine Kd.C_drew ?_))); (case side2 => exact HC0_1.out); (case side3 => repeat (first | exact (Kd.C_below HR0_2.out HB.out) | (with_reducible refine Kd.C_alloc ?_ _) | (with_reducible refine Kd.C_drewN ?_ _) | (with_reducible refine Kd.C_drew ?_))); (case side4 => exact HC0_2.out); rintro e w13 ⟨rfl, hb⟩; refine ⟨_, rfl, ?_⟩; have n0_ := aM (blk_below (g := gb388) (o := .cells #[.int .i64 a0_0, .slice A0_1 l0_1.length c0_1, .slice A0_2 l0_2.length c0_2] 25 (0, 0)) (by (with_reducible repeat (first | apply bkN | apply bkD | apply bkA)); exact BK388.out) hb); have n1_ := aM (below_step (by repeat (first | (with_reducible first | exact HB.out | apply blA | apply blN | apply blD | refine bS ?_ GE388.out) | exact HB.out)) hb); clear BK388; clear HB; have BK388 := n0_; have HB := n1_; clear n0_ n1_; (try clear hb); (try clear hb2); (try clear hk); (try clear hi)))
      go_meet
      case rel => exact ⟨_, (decide ((l1.length : Int) > 300)), (by first | rfl | (simp; done) | (simp [*]; done)), H', ⟨by first | omega | exact Nat.le_refl _⟩, ⟨by (with_reducible repeat (first | apply bkN | apply bkD | apply bkA)); exact BK388.out⟩, ⟨by repeat (first | (with_reducible first | exact HB.out | apply blA | apply blN | apply blD | refine bS ?_ GE388.out) | exact HB.out)⟩⟩
   case rest =>
    clear HC5
    obtain ⟨kq, x15_4, rfl, HA, HJ4, BK388, HB⟩ := hcut
    cases kq with
    | zero => exact absurd HA.out (by simp [l5_PatMatches.j0])
    | succ kj4 =>
     have H := HA.out
     clear HA
     simp only [l5_PatMatches.j0] at H
     by_cases c14 : x15_4 = true
     · subst c14
       have H1 : (some true) = some r := by rw [if_pos rfl] at H; exact H
       clear H
       have H := H1
       clear H1
       obtain rfl := Option.some.inj H
       go_wp2
       first | go_ret | refine ⟨_, results_tmp rfl _ _ _, ?_⟩
       exact ⟨by first | rfl | (simp [errW_none, errW_some] <;> rfl) | (simp [*, errW_none, errW_some] <;> rfl), by repeat (first | (with_reducible first | exact HB.out | apply blA | apply blN | apply blD | refine bS ?_ GE388.out) | exact HB.out)⟩
     · replace c14 := Bool.eq_false_iff.mpr c14
       subst c14
       have H1 : ((r5_Copy.f kj4 a0_0 l0_1 l0_2).bind fun bt391 => ((some (([] : List Int) : List Int)).bind fun y398 => (if y398.length + l1.length < 35184372088832 then ((some (y398 ++ l1 : List Int)).bind fun y401 => ((pat_Right.f kj4 bt391.1 bt391.2.1 bt391.2.2).bind fun t405 => ((r5_Right.f kj4 a0_0 l0_1 l0_2).bind fun t406 => (if (t405 == t406) = true then ((pat_Match.f kj4 bt391.1 bt391.2.1 bt391.2.2 y401).bind fun t407 => ((r5_Takes.f kj4 a0_0 l0_1 l0_2 l1).bind fun t408 => (if (t407 == t408) = true then ((pat_Empty.f kj4 bt391.1 bt391.2.1 bt391.2.2).bind fun t409 => ((r5_Takes.f kj4 a0_0 l0_1 l0_2 ([] : List Int)).bind fun t410 => (if (t409 == t410) = true then ((r5_Same.f kj4 bt391.1 bt391.2.1 bt391.2.2 a0_0 l0_1 l0_2).bind fun t411 => (if t411 = true then ((r1_Nums.f kj4 y401 l1).bind fun t412 => (some t412)) else (none))) else (none)))) else (none)))) else (none))))) else (none)))) = some r := by rw [if_neg (show ¬ (false = true) by decide)] at H; exact H
       clear H
       have H := H1
       clear H1
       replace H := Option.bind_eq_some_iff.mp H
       obtain ⟨⟨t391, t392, t395⟩, A150, H⟩ := H
       replace H : ((some (([] : List Int) : List Int)).bind fun y398 => (if y398.length + l1.length < 35184372088832 then ((some (y398 ++ l1 : List Int)).bind fun y401 => ((pat_Right.f kj4 t391 t392 t395).bind fun t405 => ((r5_Right.f kj4 a0_0 l0_1 l0_2).bind fun t406 => (if (t405 == t406) = true then ((pat_Match.f kj4 t391 t392 t395 y401).bind fun t407 => ((r5_Takes.f kj4 a0_0 l0_1 l0_2 l1).bind fun t408 => (if (t407 == t408) = true then ((pat_Empty.f kj4 t391 t392 t395).bind fun t409 => ((r5_Takes.f kj4 a0_0 l0_1 l0_2 ([] : List Int)).bind fun t410 => (if (t409 == t410) = true then ((r5_Same.f kj4 t391 t392 t395 a0_0 l0_1 l0_2).bind fun t411 => (if t411 = true then ((r1_Nums.f kj4 y401 l1).bind fun t412 => (some t412)) else (none))) else (none)))) else (none)))) else (none))))) else (none))) = some r := H
       have A15 := aM A150
       clear A150
       obtain ⟨y398, hy398⟩ : ∃ y_ : List Int, y_ = (([] : List Int)) := ⟨_, rfl⟩
       replace H : (if y398.length + l1.length < 35184372088832 then ((some (y398 ++ l1 : List Int)).bind fun y401 => ((pat_Right.f kj4 t391 t392 t395).bind fun t405 => ((r5_Right.f kj4 a0_0 l0_1 l0_2).bind fun t406 => (if (t405 == t406) = true then ((pat_Match.f kj4 t391 t392 t395 y401).bind fun t407 => ((r5_Takes.f kj4 a0_0 l0_1 l0_2 l1).bind fun t408 => (if (t407 == t408) = true then ((pat_Empty.f kj4 t391 t392 t395).bind fun t409 => ((r5_Takes.f kj4 a0_0 l0_1 l0_2 ([] : List Int)).bind fun t410 => (if (t409 == t410) = true then ((r5_Same.f kj4 t391 t392 t395 a0_0 l0_1 l0_2).bind fun t411 => (if t411 = true then ((r1_Nums.f kj4 y401 l1).bind fun t412 => (some t412)) else (none))) else (none)))) else (none)))) else (none))))) else (none)) = some r := by first | (rw [hy398]; with_reducible exact H) | (have H2_ := (Option.bind_some _ _).symm.trans H; rw [hy398]; with_reducible exact H2_) | (have H2_ := (Option.bind_some _ _).symm.trans H; with_reducible exact H2_) | with_reducible exact H | (rw [hy398]; exact H) | exact H
       have Ny398 := aM hy398
       clear hy398
       by_cases c16 : y398.length + l1.length < 35184372088832
       · rw [if_pos c16] at H
         have LMc16 := aM c16
         clear c16
         obtain ⟨y401, hy401⟩ : ∃ y_ : List Int, y_ = (y398 ++ l1) := ⟨_, rfl⟩
         replace H : ((pat_Right.f kj4 t391 t392 t395).bind fun t405 => ((r5_Right.f kj4 a0_0 l0_1 l0_2).bind fun t406 => (if (t405 == t406) = true then ((pat_Match.f kj4 t391 t392 t395 y401).bind fun t407 => ((r5_Takes.f kj4 a0_0 l0_1 l0_2 l1).bind fun t408 => (if (t407 == t408) = true then ((pat_Empty.f kj4 t391 t392 t395).bind fun t409 => ((r5_Takes.f kj4 a0_0 l0_1 l0_2 ([] : List Int)).bind fun t410 => (if (t409 == t410) = true then ((r5_Same.f kj4 t391 t392 t395 a0_0 l0_1 l0_2).bind fun t411 => (if t411 = true then ((r1_Nums.f kj4 y401 l1).bind fun t412 => (some t412)) else (none))) else (none)))) else (none)))) else (none)))) = some r := by first | (rw [hy401]; with_reducible exact H) | (have H2_ := (Option.bind_some _ _).symm.trans H; rw [hy401]; with_reducible exact H2_) | (have H2_ := (Option.bind_some _ _).symm.trans H; with_reducible exact H2_) | with_reducible exact H | (rw [hy401]; exact H) | exact H
         have Ny401 := aM hy401
         clear hy401
         replace H := Option.bind_eq_some_iff.mp H
         obtain ⟨t405, A170, H⟩ := H
         replace H : ((r5_Right.f kj4 a0_0 l0_1 l0_2).bind fun t406 => (if (t405 == t406) = true then ((pat_Match.f kj4 t391 t392 t395 y401).bind fun t407 => ((r5_Takes.f kj4 a0_0 l0_1 l0_2 l1).bind fun t408 => (if (t407 == t408) = true then ((pat_Empty.f kj4 t391 t392 t395).bind fun t409 => ((r5_Takes.f kj4 a0_0 l0_1 l0_2 ([] : List Int)).bind fun t410 => (if (t409 == t410) = true then ((r5_Same.f kj4 t391 t392 t395 a0_0 l0_1 l0_2).bind fun t411 => (if t411 = true then ((r1_Nums.f kj4 y401 l1).bind fun t412 => (some t412)) else (none))) else (none)))) else (none)))) else (none))) = some r := H
         have A17 := aM A170
         clear A170
         replace H := Option.bind_eq_some_iff.mp H
         obtain ⟨t406, A180, H⟩ := H
         replace H : (if (t405 == t406) = true then ((pat_Match.f kj4 t391 t392 t395 y401).bind fun t407 => ((r5_Takes.f kj4 a0_0 l0_1 l0_2 l1).bind fun t408 => (if (t407 == t408) = true then ((pat_Empty.f kj4 t391 t392 t395).bind fun t409 => ((r5_Takes.f kj4 a0_0 l0_1 l0_2 ([] : List Int)).bind fun t410 => (if (t409 == t410) = true then ((r5_Same.f kj4 t391 t392 t395 a0_0 l0_1 l0_2).bind fun t411 => (if t411 = true then ((r1_Nums.f kj4 y401 l1).bind fun t412 => (some t412)) else (none))) else (none)))) else (none)))) else (none)) = some r := H
         have A18 := aM A180
         clear A180
         by_cases c19 : (t405 == t406) = true
         · rw [if_pos c19] at H
           have c19b0 : (t405 == t406) = true := c19
           (try (have c19b1 : decide (t405 = t406) = true := by simpa using c19))
           (try (have c19b2 : (t405 == t406) = true := by simpa using c19))
           clear c19
           replace H := Option.bind_eq_some_iff.mp H
           obtain ⟨t407, A200, H⟩ := H
           replace H : ((r5_Takes.f kj4 a0_0 l0_1 l0_2 l1).bind fun t408 => (if (t407 == t408) = true then ((pat_Empty.f kj4 t391 t392 t395).bind fun t409 => ((r5_Takes.f kj4 a0_0 l0_1 l0_2 ([] : List Int)).bind fun t410 => (if (t409 == t410) = true then ((r5_Same.f kj4 t391 t392 t395 a0_0 l0_1 l0_2).bind fun t411 => (if t411 = true then ((r1_Nums.f kj4 y401 l1).bind fun t412 => (some t412)) else (none))) else (none)))) else (none))) = some r := H
           have A20 := aM A200
           clear A200
           replace H := Option.bind_eq_some_iff.mp H
           obtain ⟨t408, A210, H⟩ := H
           replace H : (if (t407 == t408) = true then ((pat_Empty.f kj4 t391 t392 t395).bind fun t409 => ((r5_Takes.f kj4 a0_0 l0_1 l0_2 ([] : List Int)).bind fun t410 => (if (t409 == t410) = true then ((r5_Same.f kj4 t391 t392 t395 a0_0 l0_1 l0_2).bind fun t411 => (if t411 = true then ((r1_Nums.f kj4 y401 l1).bind fun t412 => (some t412)) else (none))) else (none)))) else (none)) = some r := H
           have A21 := aM A210
           clear A210
           by_cases c22 : (t407 == t408) = true
           · rw [if_pos c22] at H
             have c22b0 : (t407 == t408) = true := c22
             (try (have c22b1 : decide (t407 = t408) = true := by simpa using c22))
             (try (have c22b2 : (t407 == t408) = true := by simpa using c22))
             clear c22
             replace H := Option.bind_eq_some_iff.mp H
             obtain ⟨t409, A230, H⟩ := H
             replace H : ((r5_Takes.f kj4 a0_0 l0_1 l0_2 ([] : List Int)).bind fun t410 => (if (t409 == t410) = true then ((r5_Same.f kj4 t391 t392 t395 a0_0 l0_1 l0_2).bind fun t411 => (if t411 = true then ((r1_Nums.f kj4 y401 l1).bind fun t412 => (some t412)) else (none))) else (none))) = some r := H
             have A23 := aM A230
             clear A230
             replace H := Option.bind_eq_some_iff.mp H
             obtain ⟨t410, A240, H⟩ := H
             replace H : (if (t409 == t410) = true then ((r5_Same.f kj4 t391 t392 t395 a0_0 l0_1 l0_2).bind fun t411 => (if t411 = true then ((r1_Nums.f kj4 y401 l1).bind fun t412 => (some t412)) else (none))) else (none)) = some r := H
             have A24 := aM A240
             clear A240
             by_cases c25 : (t409 == t410) = true
             · rw [if_pos c25] at H
               have c25b0 : (t409 == t410) = true := c25
               (try (have c25b1 : decide (t409 = t410) = true := by simpa using c25))
               (try (have c25b2 : (t409 == t410) = true := by simpa using c25))
               clear c25
               replace H := Option.bind_eq_some_iff.mp H
               obtain ⟨t411, A260, H⟩ := H
               replace H : (if t411 = true then ((r1_Nums.f kj4 y401 l1).bind fun t412 => (some t412)) else (none)) = some r := H
               have A26 := aM A260
               clear A260
               by_cases c27 : t411 = true
               · subst c27
                 have H1 : ((r1_Nums.f kj4 y401 l1).bind fun t412 => (some t412)) = some r := by rw [if_pos rfl] at H; exact H
                 clear H
                 have H := H1
                 clear H1
                 replace H := Option.bind_eq_some_iff.mp H
                 obtain ⟨t412, A280, H⟩ := H
                 replace H : (some t412) = some r := H
                 have A28 := aM A280
                 clear A280
                 obtain rfl := Option.some.inj H
                 have hcz29_0 : wc.cell? ⟨gb388, 0, none⟩ = some (.int .i64 a0_0) := (blk_cell BK388.out 0).trans rfl
                 have hcz29_1 : wc.cell? ⟨gb388, 1, none⟩ = some (.slice A0_1 l0_1.length c0_1) := (blk_cell BK388.out 1).trans rfl
                 have hcz29_2 : wc.cell? ⟨gb388, 2, none⟩ = some (.slice A0_2 l0_2.length c0_2) := (blk_cell BK388.out 2).trans rfl
                 have hfz29_0 := bF BK388.out 0
                 have hfz29_1 := bF BK388.out 1
                 have hfz29_2 := bF BK388.out 2
                 try go_wp2_with (first | ((with_reducible refine gate_callee (f := 15) rfl ?_); refine goesL_ (some 17) rfl rfl Try.func15 (by kernel_rfl) rfl #[.agg #[.int .i64 a0_0, .slice A0_1 l0_1.length c0_1, .slice A0_2 l0_2.length c0_2]] rfl (by (try simp only [List.map_toArray, List.map_cons, List.map_nil]); first | done | rfl | (simp only [List.length_drop, List.length_take]; rfl)) ?_; (with_reducible refine (r5_Copy.calls kj4 a0_0 _ _ l0_1 _ _ l0_2 t391 t392 t395 _ ?side1 ?side2 ?side3 ?side4 A15.out).mono ?_); (case side1 => repeat (first | exact (Kd.C_below HR0_1.out HB.out) | (with_reducible refine Kd.C_alloc ?_ _) | (with_reducible refine Kd.C_drewN ?_ _) | (with_reducible refine Kd.C_drew ?_))); (case side2 => exact HC0_1.out); (case side3 => repeat (first | exact (Kd.C_below HR0_2.out HB.out) | (with_reducible refine Kd.C_alloc ?_ _) | (with_reducible refine Kd.C_drewN ?_ _) | (with_reducible refine Kd.C_drew ?_))); (case side4 => exact HC0_2.out); rintro e w30 ⟨v393, v396, rfl, ho0, ho1, hb⟩; refine ⟨_, rfl, ?_⟩; have n0_ := aM (Kd.R_lower ho0 (below_size (by repeat (first | (with_reducible first | exact HB.out | apply blA | apply blN | apply blD | refine bS ?_ GE388.out) | exact HB.out)))); have n1_ := aM (Kd.R_lower (Kd.R_newB ho1 (g := gb388) (o := .cells #[.int .i64 a0_0, .slice A0_1 l0_1.length c0_1, .slice A0_2 l0_2.length c0_2] 25 (0, 0)) (by (with_reducible repeat (first | apply bkN | apply bkD | apply bkA)); exact BK388.out)) (below_size (by repeat (first | (with_reducible first | exact HB.out | apply blA | apply blN | apply blD | refine bS ?_ GE388.out) | exact HB.out)))); have n2_ := aM (blk_below (g := gb388) (o := .cells #[.int .i64 a0_0, .slice A0_1 l0_1.length c0_1, .slice A0_2 l0_2.length c0_2] 25 (0, 0)) (by (with_reducible repeat (first | apply bkN | apply bkD | apply bkA)); exact BK388.out) hb); have n3_ := aM (below_step (by repeat (first | (with_reducible first | exact HB.out | apply blA | apply blN | apply blD | refine bS ?_ GE388.out) | exact HB.out)) hb); clear BK388; clear HB; have HO394 := n0_; have HO397 := n1_; have BK388 := n2_; have HB := n3_; clear n0_ n1_ n2_ n3_; (try clear hb); (try clear hb2); (try clear hk); (try clear hi); (try clear ho0); (try clear ho1)) | ((with_reducible refine gate_dst (N := 18) rfl ?_); (try (refine gate_guard (by rfl) ?_; dsimp only)); refine Kd.R_lit (Kd.int .u32) _ 36 ?hg (N := 18) ?hd (xs := ([] : List Int)) (inner := []) (ok := fun _ => True) (okp := fun _ => True) ?hr ?hp (fun _ hk => hk) trivial (Below.refl _ _) (Nat.le_refl _) (by simp) ?_; (case hd => rfl); (case hg => rfl); (case hr => first | (go_simp; done) | (go_simp; rfl)); (case hp => exact (Reps.none _ _)); intro v399 w31 ho32 hb hg_ hnew_; clear hg_ hnew_; (first | rw [← Ny398.out] at ho32 | (simp only [Int.reduceToNat] at ho32; rw [← Ny398.out] at ho32)); have n0_ := aM (Kd.R_below (by (with_reducible repeat (first | apply kA | apply kN | apply kD)); exact HO394.out) hb); have n1_ := aM (Kd.R_below (by (with_reducible repeat (first | apply kA | apply kN | apply kD)); exact HO397.out) hb); have n2_ := aM (Kd.R_lower ho32 (below_size (by repeat (first | (with_reducible first | exact HB.out | apply blA | apply blN | apply blD | refine bS ?_ GE388.out) | exact HB.out)))); have n3_ := aM (blk_below (g := gb388) (o := .cells #[.int .i64 a0_0, .slice A0_1 l0_1.length c0_1, .slice A0_2 l0_2.length c0_2] 25 (0, 0)) (by (with_reducible repeat (first | apply bkN | apply bkD | apply bkA)); exact BK388.out) hb); have n4_ := aM (below_step (by repeat (first | (with_reducible first | exact HB.out | apply blA | apply blN | apply blD | refine bS ?_ GE388.out) | exact HB.out)) hb); clear HO394; clear HO397; clear BK388; clear HB; have HO394 := n0_; have HO397 := n1_; have HO400 := n2_; have BK388 := n3_; have HB := n4_; clear n0_ n1_ n2_ n3_ n4_; clear hb ho32) | ((with_reducible refine gate_builtin (b := .append) (xs := #[.tmp 18, .tmp 19]) rfl ?_); (try (refine gate_guard (by rfl) ?_; dsimp only)); at_builtin; refine Kd.R_append_rows (Kd.int .u32) (w0 := w) w.heap.size rfl (.tmp 18) (.tmp 19) 26 36 (.int .u32 0) 4 rfl Try.underlying26 info36 rfl (by decide) (by omega) v399 y398 l1 _ _ _ (fun _ => True) (fun _ => False) rfl rfl ?aO ?aR (fun _ _ h => h) (fun _ h => h.elim) ?aF ?aB ?aS ?aL ?_; (case aR => repeat (first | exact (Kd.C_below HR1.out HB.out) | (with_reducible refine Kd.C_alloc ?_ _) | (with_reducible refine Kd.C_drewN ?_ _) | (with_reducible refine Kd.C_drew ?_))); (case aB => exact (by repeat (first | (with_reducible first | exact HB.out | apply blA | apply blN | apply blD | refine bS ?_ GE388.out) | exact HB.out))); (case aF => exact (fun _ _ => trivial)); (case aO => exact (by (with_reducible repeat (first | apply kA | apply kN | apply kD)); exact HO400.out)); (case aS => exact (below_size (by repeat (first | (with_reducible first | exact HB.out | apply blA | apply blN | apply blD | refine bS ?_ GE388.out) | exact HB.out)))); (case aL => have := LMc16.out; omega); intro v402 w33 ho hb hg hat; rw [← Ny401.out] at ho; have n0_ := aM (blk_grown (g := gb388) (o := .cells #[.int .i64 a0_0, .slice A0_1 l0_1.length c0_1, .slice A0_2 l0_2.length c0_2] 25 (0, 0)) (by (with_reducible repeat (first | apply bkN | apply bkD | apply bkA)); exact BK388.out) hg (Kd.R_ne HO400.out BK388.out (by decide))); have n1_ := aM (Kd.R_over' (by (with_reducible repeat (first | apply kA | apply kN | apply kD)); exact HO394.out) (Kd.R_typed (by (with_reducible repeat (first | apply kA | apply kN | apply kD)); exact HO400.out)) (by decide) hg); have n2_ := aM (Kd.R_over' (by (with_reducible repeat (first | apply kA | apply kN | apply kD)); exact HO397.out) (Kd.R_typed (by (with_reducible repeat (first | apply kA | apply kN | apply kD)); exact HO400.out)) (by decide) hg); have n3_ := aM (hb); have n4_ := aM (ho); clear BK388; clear HO394; clear HO397; clear HB; clear HO400; have BK388 := n0_; have HO394 := n1_; have HO397 := n2_; have HB := n3_; have HO403 := n4_; clear n0_ n1_ n2_ n3_ n4_; clear ho hb hg hat) | ((with_reducible refine gate_dst (N := 5) rfl ?_); (try (refine gate_guard (by rfl) ?_; dsimp only)); refine box_event ?hg (N := 5) ?hd (cs := #[.int .i64 0, .slice none 0 0, .slice none 0 0]) (t := 25) ?hr ?_; (case hd => rfl); (case hg => rfl); (case hr => first | (go_simp; done) | (go_simp; rfl)); intro gb404 hg w34 hbox hb; have n0_ := aM (Kd.R_below (by (with_reducible repeat (first | apply kA | apply kN | apply kD)); exact HO394.out) hb); have n1_ := aM (Kd.R_below (Kd.R_elderB (by (with_reducible repeat (first | apply kA | apply kN | apply kD)); exact HO397.out) gb404 (Nat.le_of_eq hg.symm)) hb); have n2_ := aM (Kd.R_below (by (with_reducible repeat (first | apply kA | apply kN | apply kD)); exact HO403.out) hb); have n3_ := aM (blk_below (g := gb388) (o := .cells #[.int .i64 a0_0, .slice A0_1 l0_1.length c0_1, .slice A0_2 l0_2.length c0_2] 25 (0, 0)) (by (with_reducible repeat (first | apply bkN | apply bkD | apply bkA)); exact BK388.out) hb); have n4_ := aM (below_step (by repeat (first | (with_reducible first | exact HB.out | apply blA | apply blN | apply blD | refine bS ?_ GE388.out) | exact HB.out)) hb); have n5_ := aM (hbox); have n6_ := aM ((by rw [hg]; exact (below_size (by repeat (first | (with_reducible first | exact HB.out | apply blA | apply blN | apply blD | refine bS ?_ GE388.out) | exact HB.out))) : w.heap.size ≤ gb404)); have n7_ := aM ((by rw [hg]; exact (below_size (by repeat (first | (with_reducible first | exact HB.out | apply blA | apply blN | apply blD | refine bS ?_ GE388.out) | exact HB.out))) : w.heap.size ≤ gb404)); have n8_ := aM ((by rw [hg]; exact Nat.ne_of_lt (blk_lt (g := gb388) (o := .cells #[.int .i64 a0_0, .slice A0_1 l0_1.length c0_1, .slice A0_2 l0_2.length c0_2] 25 (0, 0)) (by (with_reducible repeat (first | apply bkN | apply bkD | apply bkA)); exact BK388.out)) : gb388 ≠ gb404)); have n9_ := aM ((by rw [hg]; exact Nat.ne_of_gt (blk_lt (g := gb388) (o := .cells #[.int .i64 a0_0, .slice A0_1 l0_1.length c0_1, .slice A0_2 l0_2.length c0_2] 25 (0, 0)) (by (with_reducible repeat (first | apply bkN | apply bkD | apply bkA)); exact BK388.out)) : gb404 ≠ gb388)); clear HO394; clear HO397; clear HO403; clear BK388; clear HB; have HO394 := n0_; have HO397 := n1_; have HO403 := n2_; have BK388 := n3_; have HB := n4_; have BK404 := n5_; have GW404 := n6_; have GE404 := n7_; have NB388_404 := n8_; have NB404_388 := n9_; clear n0_ n1_ n2_ n3_ n4_ n5_ n6_ n7_ n8_ n9_; clear hb hbox hg; have hnb35 := NB404_388.out; have hnc35 := NB388_404.out; have hcz36_0 : w34.cell? ⟨gb404, 0, none⟩ = some (.int .i64 0) := (blk_cell BK404.out 0).trans rfl; have hcz36_1 : w34.cell? ⟨gb404, 1, none⟩ = some (.slice none 0 0) := (blk_cell BK404.out 1).trans rfl; have hcz36_2 : w34.cell? ⟨gb404, 2, none⟩ = some (.slice none 0 0) := (blk_cell BK404.out 2).trans rfl; have hfz36_0 := bF BK404.out 0; have hfz36_1 := bF BK404.out 1; have hfz36_2 := bF BK404.out 2; obtain ⟨Ao37, co37, eo37⟩ := Kd.R_slice HO394.out; subst eo37; obtain ⟨Ao38, co38, eo38⟩ := Kd.R_slice HO397.out; subst eo38))
                 have n0_ : Aside0 (Kd.R k66 66 (((w34.setCell ⟨gb404, 0, none⟩ (.int .i64 t391)).setCell ⟨gb404, 1, none⟩ (.slice Ao37 t392.length co37)).setCell ⟨gb404, 2, none⟩ (.slice Ao38 t395.length co38)) w.heap.size (fun _ => True) (.slice Ao37 t392.length co37) t392) := ⟨by (with_reducible repeat (first | apply kA | apply kN | apply kD)); exact Kd.R_mono (Kd.R_far (p := ⟨gb404, 2, none⟩) (Kd.R_far (p := ⟨gb404, 1, none⟩) (Kd.R_far (p := ⟨gb404, 0, none⟩) (Kd.R_types HO394.out BK404.out (by decide)) (fun _ hk => hk.2) (.int .i64 t391)) (fun _ hk => hk.2) (.slice Ao37 t392.length co37)) (fun _ hk => hk.2) (.slice Ao38 t395.length co38)) (fun _ hk => trivial)⟩
                 have n1_ : Aside0 (Kd.R k25 25 (((w34.setCell ⟨gb404, 0, none⟩ (.int .i64 t391)).setCell ⟨gb404, 1, none⟩ (.slice Ao37 t392.length co37)).setCell ⟨gb404, 2, none⟩ (.slice Ao38 t395.length co38)) w.heap.size (fun k_ => some k_ ≠ (.slice Ao37 t392.length co37 : Value).ownBlock ∧ k_ ≠ gb388 ∧ k_ ≠ gb404) (.slice Ao38 t395.length co38) t395) := ⟨by (with_reducible repeat (first | apply kA | apply kN | apply kD)); exact Kd.R_mono (Kd.R_far (p := ⟨gb404, 2, none⟩) (Kd.R_far (p := ⟨gb404, 1, none⟩) (Kd.R_far (p := ⟨gb404, 0, none⟩) (Kd.R_mono HO397.out (fun k_ hk => (⟨hk, hk.2⟩ : _ ∧ k_ ≠ gb404))) (fun _ hk => hk.2) (.int .i64 t391)) (fun _ hk => hk.2) (.slice Ao37 t392.length co37)) (fun _ hk => hk.2) (.slice Ao38 t395.length co38)) (fun _ hk => ⟨hk.1.1.1, ⟨hk.1.1.2, hk.1.2⟩⟩)⟩
                 have n2_ : Aside0 (Kd.R (Kd.int .u32) 36 (((w34.setCell ⟨gb404, 0, none⟩ (.int .i64 t391)).setCell ⟨gb404, 1, none⟩ (.slice Ao37 t392.length co37)).setCell ⟨gb404, 2, none⟩ (.slice Ao38 t395.length co38)) w.heap.size (fun _ => True) v402 y401) := ⟨by (with_reducible repeat (first | apply kA | apply kN | apply kD)); exact Kd.R_mono (Kd.R_far (p := ⟨gb404, 2, none⟩) (Kd.R_far (p := ⟨gb404, 1, none⟩) (Kd.R_far (p := ⟨gb404, 0, none⟩) (Kd.R_types HO403.out BK404.out (by decide)) (fun _ hk => hk.2) (.int .i64 t391)) (fun _ hk => hk.2) (.slice Ao37 t392.length co37)) (fun _ hk => hk.2) (.slice Ao38 t395.length co38)) (fun _ hk => trivial)⟩
                 have n3_ : Aside0 ((((w34.setCell ⟨gb404, 0, none⟩ (.int .i64 t391)).setCell ⟨gb404, 1, none⟩ (.slice Ao37 t392.length co37)).setCell ⟨gb404, 2, none⟩ (.slice Ao38 t395.length co38)).heap[gb388]? = some (.cells #[.int .i64 a0_0, .slice A0_1 l0_1.length c0_1, .slice A0_2 l0_2.length c0_2] 25 (0, 0))) := ⟨by (with_reducible repeat (first | apply bkN | apply bkD | apply bkA)); refine blk_far ?_ NB388_404.out _; (with_reducible repeat (first | apply bkN | apply bkD | apply bkA)); refine blk_far ?_ NB388_404.out _; (with_reducible repeat (first | apply bkN | apply bkD | apply bkA)); refine blk_far ?_ NB388_404.out _; (with_reducible repeat (first | apply bkN | apply bkD | apply bkA)); exact BK388.out⟩
                 have n4_ : Aside0 ((((w34.setCell ⟨gb404, 0, none⟩ (.int .i64 t391)).setCell ⟨gb404, 1, none⟩ (.slice Ao37 t392.length co37)).setCell ⟨gb404, 2, none⟩ (.slice Ao38 t395.length co38)).heap[gb404]? = some (.cells #[.int .i64 t391, .slice Ao37 t392.length co37, .slice Ao38 t395.length co38] 25 (0, 0))) := ⟨by (with_reducible repeat (first | apply bkN | apply bkD | apply bkA)); refine blk_put (cs := #[.int .i64 t391, .slice Ao37 t392.length co37, .slice none 0 0]) ?_ 2 _ rfl; (with_reducible repeat (first | apply bkN | apply bkD | apply bkA)); refine blk_put (cs := #[.int .i64 t391, .slice none 0 0, .slice none 0 0]) ?_ 1 _ rfl; (with_reducible repeat (first | apply bkN | apply bkD | apply bkA)); refine blk_put (cs := #[.int .i64 0, .slice none 0 0, .slice none 0 0]) ?_ 0 _ rfl; (with_reducible repeat (first | apply bkN | apply bkD | apply bkA)); exact BK404.out⟩
                 have n5_ : Aside0 (Below w.heap.size w (((w34.setCell ⟨gb404, 0, none⟩ (.int .i64 t391)).setCell ⟨gb404, 1, none⟩ (.slice Ao37 t392.length co37)).setCell ⟨gb404, 2, none⟩ (.slice Ao38 t395.length co38))) := ⟨by repeat (first | (with_reducible first | exact HB.out | apply blA | apply blN | apply blD | refine bS ?_ GE388.out | refine bS ?_ GE404.out) | exact HB.out)⟩
                 (try clear HO394)
                 (try clear HO397)
                 (try clear HO403)
                 (try clear BK388)
                 (try clear BK404)
                 (try clear HB)
                 generalize (((w34.setCell ⟨gb404, 0, none⟩ (.int .i64 t391)).setCell ⟨gb404, 1, none⟩ (.slice Ao37 t392.length co37)).setCell ⟨gb404, 2, none⟩ (.slice Ao38 t395.length co38)) = w39 at n0_ n1_ n2_ n3_ n4_ n5_ ⊢
                 have HO394 := n0_
                 have HO397 := n1_
                 have HO403 := n2_
                 have BK388 := n3_
                 have BK404 := n4_
                 have HB := n5_
                 clear n0_ n1_ n2_ n3_ n4_ n5_
                 have n0_ := aM (Kd.R_drew HO394.out)
                 have n1_ := aM (Kd.R_drew HO397.out)
                 have n2_ := aM (Kd.R_drew HO403.out)
                 have n3_ := aM (blk_drew BK388.out)
                 have n4_ := aM (blk_drew BK404.out)
                 have n5_ := aM (below_drew1 HB.out)
                 clear HO394
                 clear HO397
                 clear HO403
                 clear BK388
                 clear BK404
                 clear HB
                 have HO394 := n0_
                 have HO397 := n1_
                 have HO403 := n2_
                 have BK388 := n3_
                 have BK404 := n4_
                 have HB := n5_
                 clear n0_ n1_ n2_ n3_ n4_ n5_
                 refine start_ (n := 32) (S := fun w' => w'.cell? ⟨gb404, 0, none⟩ = some (.int .i64 t391) ∧ w'.cell? ⟨gb404, 1, none⟩ = some (.slice Ao37 t392.length co37) ∧ w'.cell? ⟨gb404, 2, none⟩ = some (.slice Ao38 t395.length co38) ∧ w'.cell? ⟨gb388, 0, none⟩ = some (.int .i64 a0_0) ∧ w'.cell? ⟨gb388, 1, none⟩ = some (.slice A0_1 l0_1.length c0_1) ∧ w'.cell? ⟨gb388, 2, none⟩ = some (.slice A0_2 l0_2.length c0_2)) (ds := []) #[false, false, false, false, false, false, false, false, false, false, false, false, false, false, false, false, false, false, false, false, false, false, false, false, false, false, false, false, false, false, false, false] (by kernel_rfl) rfl rfl ⟨(blk_cell BK404.out 0).trans rfl, (blk_cell BK404.out 1).trans rfl, (blk_cell BK404.out 2).trans rfl, (blk_cell BK388.out 0).trans rfl, (blk_cell BK388.out 1).trans rfl, (blk_cell BK388.out 2).trans rfl⟩ (fun hHeld => ?_); refine with_tabW l5_PatMatches.tab6 l5_PatMatches.bits6 (fun HT_ HW_ => ?_)
                 generalize w39.drew = w40 at HO394 HO397 HO403 BK388 BK404 HB hHeld ⊢
                 refine take_ (i := 0) (N := some 21) (v := ?_) (a' := ?_) #[true, false, false, false, false, false, false, false, false, false, false, false, false, false, false, false, false, false, false, false, false, false, false, false, false, false, false, false, false, false, false, false] rfl rfl (take_ofW HT_.out HW_.out (by kernel_rfl)) (fun _ _ _ h => h) (Or.inl ⟨by rfl, ?_⟩) hHeld ?_ ?_
                 rotate_left
                 · rintro w' ⟨s0, s1, s2, s3, s4, s5⟩
                   go_simp
                   with_reducible rfl
                 rotate_left
                 · simp only [Act.put, List.setIfInBounds_toArray, List.set_cons_zero, List.set_cons_succ, i64_w, i32_w]
                   rfl
                 refine take_ (i := 2) (N := some 23) (v := ?_) (a' := ?_) #[true, false, true, false, false, false, false, false, false, false, false, false, false, false, false, false, false, false, false, false, false, false, false, false, false, false, false, false, false, false, false, false] rfl rfl (take_ofW HT_.out HW_.out (by kernel_rfl)) (fun _ _ _ h => h) (Or.inl ⟨by rfl, ?_⟩) hHeld ?_ ?_
                 rotate_left
                 · rintro w' ⟨s0, s1, s2, s3, s4, s5⟩
                   go_simp
                   with_reducible rfl
                 rotate_left
                 · simp only [Act.put, List.setIfInBounds_toArray, List.set_cons_zero, List.set_cons_succ, i64_w, i32_w]
                   rfl
                 refine one_ (i := 1) (N := some 22) #[true, true, true, false, false, false, false, false, false, false, false, false, false, false, false, false, false, false, false, false, false, false, false, false, false, false, false, false, false, false, false, false] rfl rfl (one_of HT_.out (by kernel_rfl)) (by decide) (fun K hK => ?_)
                 refine goes_ Try.func16 (by kernel_rfl) rfl #[.agg #[.int .i64 t391, .slice Ao37 t392.length co37, .slice Ao38 t395.length co38]] (by rfl) rfl rfl (by (try simp only [List.map_toArray, List.map_cons, List.map_nil]); first | done | rfl | (simp only [List.length_drop, List.length_take]; rfl)) ?_
                 with_reducible refine (pat_Right.calls kj4 t391 _ _ t392 _ _ t395 t405 _ ?side1 ?side2 ?side3 ?side4 A17.out).mono ?_
                 (case side1 => repeat (first | exact (Kd.R_reads' HO394.out).2.2 | (with_reducible refine Kd.C_alloc ?_ _) | (with_reducible refine Kd.C_drewN ?_ _) | (with_reducible refine Kd.C_drew ?_)))
                 (case side2 => exact (Kd.R_reads' HO394.out).2.1)
                 (case side3 => repeat (first | exact (Kd.R_reads' HO397.out).2.2 | (with_reducible refine Kd.C_alloc ?_ _) | (with_reducible refine Kd.C_drewN ?_ _) | (with_reducible refine Kd.C_drew ?_)))
                 (case side4 => exact (Kd.R_reads' HO397.out).2.1)
                 rintro e w41 ⟨rfl, hb⟩
                 refine ⟨_, rfl, ?_⟩
                 have n0_ := aM (Kd.R_below (by (with_reducible repeat (first | apply kA | apply kN | apply kD)); exact HO394.out) hb)
                 have n1_ := aM (Kd.R_below (by (with_reducible repeat (first | apply kA | apply kN | apply kD)); exact HO397.out) hb)
                 have n2_ := aM (Kd.R_below (by (with_reducible repeat (first | apply kA | apply kN | apply kD)); exact HO403.out) hb)
                 have n3_ := aM (blk_below (g := gb388) (o := .cells #[.int .i64 a0_0, .slice A0_1 l0_1.length c0_1, .slice A0_2 l0_2.length c0_2] 25 (0, 0)) (by (with_reducible repeat (first | apply bkN | apply bkD | apply bkA)); exact BK388.out) hb)
                 have n4_ := aM (blk_below (g := gb404) (o := .cells #[.int .i64 t391, .slice Ao37 t392.length co37, .slice Ao38 t395.length co38] 25 (0, 0)) (by (with_reducible repeat (first | apply bkN | apply bkD | apply bkA)); exact BK404.out) hb)
                 have n5_ := aM (below_step (by repeat (first | (with_reducible first | exact HB.out | apply blA | apply blN | apply blD | refine bS ?_ GE388.out | refine bS ?_ GE404.out) | exact HB.out)) hb)
                 clear HO394
                 clear HO397
                 clear HO403
                 clear BK388
                 clear BK404
                 clear HB
                 have HO394 := n0_
                 have HO397 := n1_
                 have HO403 := n2_
                 have BK388 := n3_
                 have BK404 := n4_
                 have HB := n5_
                 clear n0_ n1_ n2_ n3_ n4_ n5_
                 (try clear hb)
                 (try clear hb2)
                 (try clear hk)
                 (try clear hi)
                 refine hK.out _ _ ⟨(blk_cell BK404.out 0).trans rfl, (blk_cell BK404.out 1).trans rfl, (blk_cell BK404.out 2).trans rfl, (blk_cell BK388.out 0).trans rfl, (blk_cell BK388.out 1).trans rfl, (blk_cell BK388.out 2).trans rfl⟩ (fun hHeld => ?_)
                 clear hK K
                 refine norm_ (a' := ?_) ?_ ?_
                 rotate_left
                 · show Act.put _ (some 22) _ = _
                   simp only [Act.put, List.setIfInBounds_toArray, List.set_cons_zero, List.set_cons_succ, i64_w, i32_w]
                   rfl
                 refine one_ (i := 3) (N := some 24) #[true, true, true, true, false, false, false, false, false, false, false, false, false, false, false, false, false, false, false, false, false, false, false, false, false, false, false, false, false, false, false, false] rfl rfl (one_of HT_.out (by kernel_rfl)) (by decide) (fun K hK => ?_)
                 refine goes_ Try.func17 (by kernel_rfl) rfl #[.agg #[.int .i64 a0_0, .slice A0_1 l0_1.length c0_1, .slice A0_2 l0_2.length c0_2]] (by rfl) rfl rfl (by (try simp only [List.map_toArray, List.map_cons, List.map_nil]); first | done | rfl | (simp only [List.length_drop, List.length_take]; rfl)) ?_
                 with_reducible refine (r5_Right.calls kj4 a0_0 _ _ l0_1 _ _ l0_2 t406 _ ?side1 ?side2 ?side3 ?side4 A18.out).mono ?_
                 (case side1 => repeat (first | exact (Kd.C_below HR0_1.out HB.out) | (with_reducible refine Kd.C_alloc ?_ _) | (with_reducible refine Kd.C_drewN ?_ _) | (with_reducible refine Kd.C_drew ?_)))
                 (case side2 => exact HC0_1.out)
                 (case side3 => repeat (first | exact (Kd.C_below HR0_2.out HB.out) | (with_reducible refine Kd.C_alloc ?_ _) | (with_reducible refine Kd.C_drewN ?_ _) | (with_reducible refine Kd.C_drew ?_)))
                 (case side4 => exact HC0_2.out)
                 rintro e w42 ⟨rfl, hb⟩
                 refine ⟨_, rfl, ?_⟩
                 have n0_ := aM (Kd.R_below (by (with_reducible repeat (first | apply kA | apply kN | apply kD)); exact HO394.out) hb)
                 have n1_ := aM (Kd.R_below (by (with_reducible repeat (first | apply kA | apply kN | apply kD)); exact HO397.out) hb)
                 have n2_ := aM (Kd.R_below (by (with_reducible repeat (first | apply kA | apply kN | apply kD)); exact HO403.out) hb)
                 have n3_ := aM (blk_below (g := gb388) (o := .cells #[.int .i64 a0_0, .slice A0_1 l0_1.length c0_1, .slice A0_2 l0_2.length c0_2] 25 (0, 0)) (by (with_reducible repeat (first | apply bkN | apply bkD | apply bkA)); exact BK388.out) hb)
                 have n4_ := aM (blk_below (g := gb404) (o := .cells #[.int .i64 t391, .slice Ao37 t392.length co37, .slice Ao38 t395.length co38] 25 (0, 0)) (by (with_reducible repeat (first | apply bkN | apply bkD | apply bkA)); exact BK404.out) hb)
                 have n5_ := aM (below_step (by repeat (first | (with_reducible first | exact HB.out | apply blA | apply blN | apply blD | refine bS ?_ GE388.out | refine bS ?_ GE404.out) | exact HB.out)) hb)
                 clear HO394
                 clear HO397
                 clear HO403
                 clear BK388
                 clear BK404
                 clear HB
                 have HO394 := n0_
                 have HO397 := n1_
                 have HO403 := n2_
                 have BK388 := n3_
                 have BK404 := n4_
                 have HB := n5_
                 clear n0_ n1_ n2_ n3_ n4_ n5_
                 (try clear hb)
                 (try clear hb2)
                 (try clear hk)
                 (try clear hi)
                 obtain ⟨Ao43, co43, eo43⟩ := Kd.R_slice HO403.out
                 (first | subst eo43 | (injection eo43 with f1_ f2_ f3_; have f4_ := f1_.symm; have f5_ := f3_.symm; clear f1_ f2_ f3_; subst f4_; subst f5_))
                 refine hK.out _ _ ⟨(blk_cell BK404.out 0).trans rfl, (blk_cell BK404.out 1).trans rfl, (blk_cell BK404.out 2).trans rfl, (blk_cell BK388.out 0).trans rfl, (blk_cell BK388.out 1).trans rfl, (blk_cell BK388.out 2).trans rfl⟩ (fun hHeld => ?_)
                 clear hK K
                 refine norm_ (a' := ?_) ?_ ?_
                 rotate_left
                 · show Act.put _ (some 24) _ = _
                   simp only [Act.put, List.setIfInBounds_toArray, List.set_cons_zero, List.set_cons_succ, i64_w, i32_w]
                   rfl
                 refine pure_ (i := 4) (N := some 25) (v := ?_) (a' := ?_) #[true, true, true, true, true, false, false, false, false, false, false, false, false, false, false, false, false, false, false, false, false, false, false, false, false, false, false, false, false, false, false, false] rfl rfl (any_of HT_.out (by kernel_rfl)) (fun _ _ _ h => h) (Or.inl ⟨by rfl, ?_⟩) ?_ ?_
                 rotate_left
                 · intro w'
                   go_simp
                   with_reducible rfl
                 rotate_left
                 · simp only [Act.put, List.setIfInBounds_toArray, List.set_cons_zero, List.set_cons_succ, i64_w, i32_w]
                   rfl
                 refine pure_ (i := 5) (N := some 26) (v := ?_) (a' := ?_) #[true, true, true, true, true, true, false, false, false, false, false, false, false, false, false, false, false, false, false, false, false, false, false, false, false, false, false, false, false, false, false, false] rfl rfl (any_of HT_.out (by kernel_rfl)) (fun _ _ _ h => h) (Or.inl ⟨by rfl, ?_⟩) ?_ ?_
                 rotate_left
                 · intro w'
                   go_simp
                   with_reducible rfl
                 rotate_left
                 · simp only [Act.put, List.setIfInBounds_toArray, List.set_cons_zero, List.set_cons_succ, i64_w, i32_w]
                   rfl
                 refine pure_ (i := 7) (N := some 28) (v := ?_) (a' := ?_) #[true, true, true, true, true, true, false, true, false, false, false, false, false, false, false, false, false, false, false, false, false, false, false, false, false, false, false, false, false, false, false, false] rfl rfl (any_of HT_.out (by kernel_rfl)) (fun _ _ _ h => h) (Or.inl ⟨by rfl, ?_⟩) ?_ ?_
                 rotate_left
                 · intro w'
                   go_simp
                   with_reducible rfl
                 rotate_left
                 · simp only [Act.put, List.setIfInBounds_toArray, List.set_cons_zero, List.set_cons_succ, i64_w, i32_w]
                   rfl
                 refine pure_ (i := 10) (N := some 31) (v := ?_) (a' := ?_) #[true, true, true, true, true, true, false, true, false, false, true, false, false, false, false, false, false, false, false, false, false, false, false, false, false, false, false, false, false, false, false, false] rfl rfl (any_of HT_.out (by kernel_rfl)) (fun _ _ _ h => h) (Or.inl ⟨by rfl, ?_⟩) ?_ ?_
                 rotate_left
                 · intro w'
                   go_simp
                   with_reducible rfl
                 rotate_left
                 · simp only [Act.put, List.setIfInBounds_toArray, List.set_cons_zero, List.set_cons_succ, i64_w, i32_w]
                   rfl
                 refine take_ (i := 6) (N := some 27) (v := ?_) (a' := ?_) #[true, true, true, true, true, true, true, true, false, false, true, false, false, false, false, false, false, false, false, false, false, false, false, false, false, false, false, false, false, false, false, false] rfl rfl (take_ofW HT_.out HW_.out (by kernel_rfl)) (fun _ _ _ h => h) (Or.inl ⟨by rfl, ?_⟩) hHeld ?_ ?_
                 rotate_left
                 · rintro w' ⟨s0, s1, s2, s3, s4, s5⟩
                   go_simp
                   with_reducible rfl
                 rotate_left
                 · simp only [Act.put, List.setIfInBounds_toArray, List.set_cons_zero, List.set_cons_succ, i64_w, i32_w]
                   rfl
                 refine take_ (i := 9) (N := some 30) (v := ?_) (a' := ?_) #[true, true, true, true, true, true, true, true, false, true, true, false, false, false, false, false, false, false, false, false, false, false, false, false, false, false, false, false, false, false, false, false] rfl rfl (take_ofW HT_.out HW_.out (by kernel_rfl)) (fun _ _ _ h => h) (Or.inl ⟨by rfl, ?_⟩) hHeld ?_ ?_
                 rotate_left
                 · rintro w' ⟨s0, s1, s2, s3, s4, s5⟩
                   go_simp
                   with_reducible rfl
                 rotate_left
                 · simp only [Act.put, List.setIfInBounds_toArray, List.set_cons_zero, List.set_cons_succ, i64_w, i32_w]
                   rfl
                 refine one_ (i := 8) (N := some 29) #[true, true, true, true, true, true, true, true, true, true, true, false, false, false, false, false, false, false, false, false, false, false, false, false, false, false, false, false, false, false, false, false] rfl rfl (one_of HT_.out (by kernel_rfl)) (by decide) (fun K hK => ?_)
                 refine goes_ Try.func18 (by kernel_rfl) rfl #[.agg #[.int .i64 t391, .slice Ao37 t392.length co37, .slice Ao38 t395.length co38], .slice Ao43 y401.length co43] (by rfl) rfl rfl (by (try simp only [List.map_toArray, List.map_cons, List.map_nil]); first | done | rfl | (simp only [List.length_drop, List.length_take]; rfl)) ?_
                 with_reducible refine (pat_Match.calls kj4 t391 _ _ t392 _ _ t395 _ _ y401 t407 _ ?side1 ?side2 ?side3 ?side4 ?side5 ?side6 A20.out).mono ?_
                 (case side1 => repeat (first | exact (Kd.R_reads' HO394.out).2.2 | (with_reducible refine Kd.C_alloc ?_ _) | (with_reducible refine Kd.C_drewN ?_ _) | (with_reducible refine Kd.C_drew ?_)))
                 (case side2 => exact (Kd.R_reads' HO394.out).2.1)
                 (case side3 => repeat (first | exact (Kd.R_reads' HO397.out).2.2 | (with_reducible refine Kd.C_alloc ?_ _) | (with_reducible refine Kd.C_drewN ?_ _) | (with_reducible refine Kd.C_drew ?_)))
                 (case side4 => exact (Kd.R_reads' HO397.out).2.1)
                 (case side5 => repeat (first | exact (Kd.R_reads' HO403.out).2.2 | (with_reducible refine Kd.C_alloc ?_ _) | (with_reducible refine Kd.C_drewN ?_ _) | (with_reducible refine Kd.C_drew ?_)))
                 (case side6 => exact (Kd.R_reads' HO403.out).2.1)
                 rintro e w44 ⟨rfl, hb⟩
                 refine ⟨_, rfl, ?_⟩
                 have n0_ := aM (Kd.R_below (by (with_reducible repeat (first | apply kA | apply kN | apply kD)); exact HO394.out) hb)
                 have n1_ := aM (Kd.R_below (by (with_reducible repeat (first | apply kA | apply kN | apply kD)); exact HO397.out) hb)
                 have n2_ := aM (Kd.R_below (by (with_reducible repeat (first | apply kA | apply kN | apply kD)); exact HO403.out) hb)
                 have n3_ := aM (blk_below (g := gb388) (o := .cells #[.int .i64 a0_0, .slice A0_1 l0_1.length c0_1, .slice A0_2 l0_2.length c0_2] 25 (0, 0)) (by (with_reducible repeat (first | apply bkN | apply bkD | apply bkA)); exact BK388.out) hb)
                 have n4_ := aM (blk_below (g := gb404) (o := .cells #[.int .i64 t391, .slice Ao37 t392.length co37, .slice Ao38 t395.length co38] 25 (0, 0)) (by (with_reducible repeat (first | apply bkN | apply bkD | apply bkA)); exact BK404.out) hb)
                 have n5_ := aM (below_step (by repeat (first | (with_reducible first | exact HB.out | apply blA | apply blN | apply blD | refine bS ?_ GE388.out | refine bS ?_ GE404.out) | exact HB.out)) hb)
                 clear HO394
                 clear HO397
                 clear HO403
                 clear BK388
                 clear BK404
                 clear HB
                 have HO394 := n0_
                 have HO397 := n1_
                 have HO403 := n2_
                 have BK388 := n3_
                 have BK404 := n4_
                 have HB := n5_
                 clear n0_ n1_ n2_ n3_ n4_ n5_
                 (try clear hb)
                 (try clear hb2)
                 (try clear hk)
                 (try clear hi)
                 refine hK.out _ _ ⟨(blk_cell BK404.out 0).trans rfl, (blk_cell BK404.out 1).trans rfl, (blk_cell BK404.out 2).trans rfl, (blk_cell BK388.out 0).trans rfl, (blk_cell BK388.out 1).trans rfl, (blk_cell BK388.out 2).trans rfl⟩ (fun hHeld => ?_)
                 clear hK K
                 refine norm_ (a' := ?_) ?_ ?_
                 rotate_left
                 · show Act.put _ (some 29) _ = _
                   simp only [Act.put, List.setIfInBounds_toArray, List.set_cons_zero, List.set_cons_succ, i64_w, i32_w]
                   rfl
                 refine one_ (i := 11) (N := some 32) #[true, true, true, true, true, true, true, true, true, true, true, true, false, false, false, false, false, false, false, false, false, false, false, false, false, false, false, false, false, false, false, false] rfl rfl (one_of HT_.out (by kernel_rfl)) (by decide) (fun K hK => ?_)
                 refine goes_ Try.func19 (by kernel_rfl) rfl #[.agg #[.int .i64 a0_0, .slice A0_1 l0_1.length c0_1, .slice A0_2 l0_2.length c0_2], .slice A1 l1.length c1] (by rfl) rfl rfl (by (try simp only [List.map_toArray, List.map_cons, List.map_nil]); first | done | rfl | (simp only [List.length_drop, List.length_take]; rfl)) ?_
                 with_reducible refine (r5_Takes.calls kj4 a0_0 _ _ l0_1 _ _ l0_2 _ _ l1 t408 _ ?side1 ?side2 ?side3 ?side4 ?side5 ?side6 A21.out).mono ?_
                 (case side1 => repeat (first | exact (Kd.C_below HR0_1.out HB.out) | (with_reducible refine Kd.C_alloc ?_ _) | (with_reducible refine Kd.C_drewN ?_ _) | (with_reducible refine Kd.C_drew ?_)))
                 (case side2 => exact HC0_1.out)
                 (case side3 => repeat (first | exact (Kd.C_below HR0_2.out HB.out) | (with_reducible refine Kd.C_alloc ?_ _) | (with_reducible refine Kd.C_drewN ?_ _) | (with_reducible refine Kd.C_drew ?_)))
                 (case side4 => exact HC0_2.out)
                 (case side5 => repeat (first | exact (Kd.C_below HR1.out HB.out) | (with_reducible refine Kd.C_alloc ?_ _) | (with_reducible refine Kd.C_drewN ?_ _) | (with_reducible refine Kd.C_drew ?_)))
                 (case side6 => exact HC1.out)
                 rintro e w45 ⟨rfl, hb⟩
                 refine ⟨_, rfl, ?_⟩
                 have n0_ := aM (Kd.R_below (by (with_reducible repeat (first | apply kA | apply kN | apply kD)); exact HO394.out) hb)
                 have n1_ := aM (Kd.R_below (by (with_reducible repeat (first | apply kA | apply kN | apply kD)); exact HO397.out) hb)
                 have n2_ := aM (Kd.R_below (by (with_reducible repeat (first | apply kA | apply kN | apply kD)); exact HO403.out) hb)
                 have n3_ := aM (blk_below (g := gb388) (o := .cells #[.int .i64 a0_0, .slice A0_1 l0_1.length c0_1, .slice A0_2 l0_2.length c0_2] 25 (0, 0)) (by (with_reducible repeat (first | apply bkN | apply bkD | apply bkA)); exact BK388.out) hb)
                 have n4_ := aM (blk_below (g := gb404) (o := .cells #[.int .i64 t391, .slice Ao37 t392.length co37, .slice Ao38 t395.length co38] 25 (0, 0)) (by (with_reducible repeat (first | apply bkN | apply bkD | apply bkA)); exact BK404.out) hb)
                 have n5_ := aM (below_step (by repeat (first | (with_reducible first | exact HB.out | apply blA | apply blN | apply blD | refine bS ?_ GE388.out | refine bS ?_ GE404.out) | exact HB.out)) hb)
                 clear HO394
                 clear HO397
                 clear HO403
                 clear BK388
                 clear BK404
                 clear HB
                 have HO394 := n0_
                 have HO397 := n1_
                 have HO403 := n2_
                 have BK388 := n3_
                 have BK404 := n4_
                 have HB := n5_
                 clear n0_ n1_ n2_ n3_ n4_ n5_
                 (try clear hb)
                 (try clear hb2)
                 (try clear hk)
                 (try clear hi)
                 refine hK.out _ _ ⟨(blk_cell BK404.out 0).trans rfl, (blk_cell BK404.out 1).trans rfl, (blk_cell BK404.out 2).trans rfl, (blk_cell BK388.out 0).trans rfl, (blk_cell BK388.out 1).trans rfl, (blk_cell BK388.out 2).trans rfl⟩ (fun hHeld => ?_)
                 clear hK K
                 refine norm_ (a' := ?_) ?_ ?_
                 rotate_left
                 · show Act.put _ (some 32) _ = _
                   simp only [Act.put, List.setIfInBounds_toArray, List.set_cons_zero, List.set_cons_succ, i64_w, i32_w]
                   rfl
                 refine pure_ (i := 12) (N := some 33) (v := ?_) (a' := ?_) #[true, true, true, true, true, true, true, true, true, true, true, true, true, false, false, false, false, false, false, false, false, false, false, false, false, false, false, false, false, false, false, false] rfl rfl (any_of HT_.out (by kernel_rfl)) (fun _ _ _ h => h) (Or.inl ⟨by rfl, ?_⟩) ?_ ?_
                 rotate_left
                 · intro w'
                   go_simp
                   with_reducible rfl
                 rotate_left
                 · simp only [Act.put, List.setIfInBounds_toArray, List.set_cons_zero, List.set_cons_succ, i64_w, i32_w]
                   rfl
                 refine pure_ (i := 13) (N := some 34) (v := ?_) (a' := ?_) #[true, true, true, true, true, true, true, true, true, true, true, true, true, true, false, false, false, false, false, false, false, false, false, false, false, false, false, false, false, false, false, false] rfl rfl (any_of HT_.out (by kernel_rfl)) (fun _ _ _ h => h) (Or.inl ⟨by rfl, ?_⟩) ?_ ?_
                 rotate_left
                 · intro w'
                   go_simp
                   with_reducible rfl
                 rotate_left
                 · simp only [Act.put, List.setIfInBounds_toArray, List.set_cons_zero, List.set_cons_succ, i64_w, i32_w]
                   rfl
                 refine pure_ (i := 14) (N := some 35) (v := ?_) (a' := ?_) #[true, true, true, true, true, true, true, true, true, true, true, true, true, true, true, false, false, false, false, false, false, false, false, false, false, false, false, false, false, false, false, false] rfl rfl (any_of HT_.out (by kernel_rfl)) (fun _ _ _ h => h) (Or.inl ⟨by rfl, ?_⟩) ?_ ?_
                 rotate_left
                 · intro w'
                   go_simp
                   with_reducible rfl
                 rotate_left
                 · simp only [Act.put, List.setIfInBounds_toArray, List.set_cons_zero, List.set_cons_succ, i64_w, i32_w]
                   rfl
                 refine take_ (i := 15) (N := some 36) (v := ?_) (a' := ?_) #[true, true, true, true, true, true, true, true, true, true, true, true, true, true, true, true, false, false, false, false, false, false, false, false, false, false, false, false, false, false, false, false] rfl rfl (take_ofW HT_.out HW_.out (by kernel_rfl)) (fun _ _ _ h => h) (Or.inl ⟨by rfl, ?_⟩) hHeld ?_ ?_
                 rotate_left
                 · rintro w' ⟨s0, s1, s2, s3, s4, s5⟩
                   go_simp
                   with_reducible rfl
                 rotate_left
                 · simp only [Act.put, List.setIfInBounds_toArray, List.set_cons_zero, List.set_cons_succ, i64_w, i32_w]
                   rfl
                 refine take_ (i := 17) (N := some 38) (v := ?_) (a' := ?_) #[true, true, true, true, true, true, true, true, true, true, true, true, true, true, true, true, false, true, false, false, false, false, false, false, false, false, false, false, false, false, false, false] rfl rfl (take_ofW HT_.out HW_.out (by kernel_rfl)) (fun _ _ _ h => h) (Or.inl ⟨by rfl, ?_⟩) hHeld ?_ ?_
                 rotate_left
                 · rintro w' ⟨s0, s1, s2, s3, s4, s5⟩
                   go_simp
                   with_reducible rfl
                 rotate_left
                 · simp only [Act.put, List.setIfInBounds_toArray, List.set_cons_zero, List.set_cons_succ, i64_w, i32_w]
                   rfl
                 refine one_ (i := 16) (N := some 37) #[true, true, true, true, true, true, true, true, true, true, true, true, true, true, true, true, true, true, false, false, false, false, false, false, false, false, false, false, false, false, false, false] rfl rfl (one_of HT_.out (by kernel_rfl)) (by decide) (fun K hK => ?_)
                 refine goes_ Try.func20 (by kernel_rfl) rfl #[.agg #[.int .i64 t391, .slice Ao37 t392.length co37, .slice Ao38 t395.length co38]] (by rfl) rfl rfl (by (try simp only [List.map_toArray, List.map_cons, List.map_nil]); first | done | rfl | (simp only [List.length_drop, List.length_take]; rfl)) ?_
                 with_reducible refine (pat_Empty.calls kj4 t391 _ _ t392 _ _ t395 t409 _ ?side1 ?side2 ?side3 ?side4 A23.out).mono ?_
                 (case side1 => repeat (first | exact (Kd.R_reads' HO394.out).2.2 | (with_reducible refine Kd.C_alloc ?_ _) | (with_reducible refine Kd.C_drewN ?_ _) | (with_reducible refine Kd.C_drew ?_)))
                 (case side2 => exact (Kd.R_reads' HO394.out).2.1)
                 (case side3 => repeat (first | exact (Kd.R_reads' HO397.out).2.2 | (with_reducible refine Kd.C_alloc ?_ _) | (with_reducible refine Kd.C_drewN ?_ _) | (with_reducible refine Kd.C_drew ?_)))
                 (case side4 => exact (Kd.R_reads' HO397.out).2.1)
                 rintro e w46 ⟨rfl, hb⟩
                 refine ⟨_, rfl, ?_⟩
                 have n0_ := aM (Kd.R_below (by (with_reducible repeat (first | apply kA | apply kN | apply kD)); exact HO394.out) hb)
                 have n1_ := aM (Kd.R_below (by (with_reducible repeat (first | apply kA | apply kN | apply kD)); exact HO397.out) hb)
                 have n2_ := aM (Kd.R_below (by (with_reducible repeat (first | apply kA | apply kN | apply kD)); exact HO403.out) hb)
                 have n3_ := aM (blk_below (g := gb388) (o := .cells #[.int .i64 a0_0, .slice A0_1 l0_1.length c0_1, .slice A0_2 l0_2.length c0_2] 25 (0, 0)) (by (with_reducible repeat (first | apply bkN | apply bkD | apply bkA)); exact BK388.out) hb)
                 have n4_ := aM (blk_below (g := gb404) (o := .cells #[.int .i64 t391, .slice Ao37 t392.length co37, .slice Ao38 t395.length co38] 25 (0, 0)) (by (with_reducible repeat (first | apply bkN | apply bkD | apply bkA)); exact BK404.out) hb)
                 have n5_ := aM (below_step (by repeat (first | (with_reducible first | exact HB.out | apply blA | apply blN | apply blD | refine bS ?_ GE388.out | refine bS ?_ GE404.out) | exact HB.out)) hb)
                 clear HO394
                 clear HO397
                 clear HO403
                 clear BK388
                 clear BK404
                 clear HB
                 have HO394 := n0_
                 have HO397 := n1_
                 have HO403 := n2_
                 have BK388 := n3_
                 have BK404 := n4_
                 have HB := n5_
                 clear n0_ n1_ n2_ n3_ n4_ n5_
                 (try clear hb)
                 (try clear hb2)
                 (try clear hk)
                 (try clear hi)
                 refine hK.out _ _ ⟨(blk_cell BK404.out 0).trans rfl, (blk_cell BK404.out 1).trans rfl, (blk_cell BK404.out 2).trans rfl, (blk_cell BK388.out 0).trans rfl, (blk_cell BK388.out 1).trans rfl, (blk_cell BK388.out 2).trans rfl⟩ (fun hHeld => ?_)
                 clear hK K
                 refine norm_ (a' := ?_) ?_ ?_
                 rotate_left
                 · show Act.put _ (some 37) _ = _
                   simp only [Act.put, List.setIfInBounds_toArray, List.set_cons_zero, List.set_cons_succ, i64_w, i32_w]
                   rfl
                 refine one_ (i := 18) (N := some 39) #[true, true, true, true, true, true, true, true, true, true, true, true, true, true, true, true, true, true, true, false, false, false, false, false, false, false, false, false, false, false, false, false] rfl rfl (one_of HT_.out (by kernel_rfl)) (by decide) (fun K hK => ?_)
                 refine goes_ Try.func19 (by kernel_rfl) rfl #[.agg #[.int .i64 a0_0, .slice A0_1 l0_1.length c0_1, .slice A0_2 l0_2.length c0_2], .slice none 0 0] (by rfl) rfl rfl (by (try simp only [List.map_toArray, List.map_cons, List.map_nil]); first | done | rfl | (simp only [List.length_drop, List.length_take]; rfl)) ?_
                 refine (r5_Takes.calls kj4 a0_0 _ _ l0_1 _ _ l0_2 _ _ ([] : List Int) t410 _ ?side1 ?side2 ?side3 ?side4 ?side5 ?side6 A24.out).mono ?_
                 (case side1 => repeat (first | exact (Kd.C_below HR0_1.out HB.out) | (with_reducible refine Kd.C_alloc ?_ _) | (with_reducible refine Kd.C_drewN ?_ _) | (with_reducible refine Kd.C_drew ?_)))
                 (case side2 => exact HC0_1.out)
                 (case side3 => repeat (first | exact (Kd.C_below HR0_2.out HB.out) | (with_reducible refine Kd.C_alloc ?_ _) | (with_reducible refine Kd.C_drewN ?_ _) | (with_reducible refine Kd.C_drew ?_)))
                 (case side4 => exact HC0_2.out)
                 (case side5 => exact Kd.C_nil _ _)
                 (case side6 => exact Nat.le_refl _)
                 rintro e w47 ⟨rfl, hb⟩
                 refine ⟨_, rfl, ?_⟩
                 have n0_ := aM (Kd.R_below (by (with_reducible repeat (first | apply kA | apply kN | apply kD)); exact HO394.out) hb)
                 have n1_ := aM (Kd.R_below (by (with_reducible repeat (first | apply kA | apply kN | apply kD)); exact HO397.out) hb)
                 have n2_ := aM (Kd.R_below (by (with_reducible repeat (first | apply kA | apply kN | apply kD)); exact HO403.out) hb)
                 have n3_ := aM (blk_below (g := gb388) (o := .cells #[.int .i64 a0_0, .slice A0_1 l0_1.length c0_1, .slice A0_2 l0_2.length c0_2] 25 (0, 0)) (by (with_reducible repeat (first | apply bkN | apply bkD | apply bkA)); exact BK388.out) hb)
                 have n4_ := aM (blk_below (g := gb404) (o := .cells #[.int .i64 t391, .slice Ao37 t392.length co37, .slice Ao38 t395.length co38] 25 (0, 0)) (by (with_reducible repeat (first | apply bkN | apply bkD | apply bkA)); exact BK404.out) hb)
                 have n5_ := aM (below_step (by repeat (first | (with_reducible first | exact HB.out | apply blA | apply blN | apply blD | refine bS ?_ GE388.out | refine bS ?_ GE404.out) | exact HB.out)) hb)
                 clear HO394
                 clear HO397
                 clear HO403
                 clear BK388
                 clear BK404
                 clear HB
                 have HO394 := n0_
                 have HO397 := n1_
                 have HO403 := n2_
                 have BK388 := n3_
                 have BK404 := n4_
                 have HB := n5_
                 clear n0_ n1_ n2_ n3_ n4_ n5_
                 (try clear hb)
                 (try clear hb2)
                 (try clear hk)
                 (try clear hi)
                 refine hK.out _ _ ⟨(blk_cell BK404.out 0).trans rfl, (blk_cell BK404.out 1).trans rfl, (blk_cell BK404.out 2).trans rfl, (blk_cell BK388.out 0).trans rfl, (blk_cell BK388.out 1).trans rfl, (blk_cell BK388.out 2).trans rfl⟩ (fun hHeld => ?_)
                 clear hK K
                 refine norm_ (a' := ?_) ?_ ?_
                 rotate_left
                 · show Act.put _ (some 39) _ = _
                   simp only [Act.put, List.setIfInBounds_toArray, List.set_cons_zero, List.set_cons_succ, i64_w, i32_w]
                   rfl
                 refine pure_ (i := 19) (N := some 40) (v := ?_) (a' := ?_) #[true, true, true, true, true, true, true, true, true, true, true, true, true, true, true, true, true, true, true, true, false, false, false, false, false, false, false, false, false, false, false, false] rfl rfl (any_of HT_.out (by kernel_rfl)) (fun _ _ _ h => h) (Or.inl ⟨by rfl, ?_⟩) ?_ ?_
                 rotate_left
                 · intro w'
                   go_simp
                   with_reducible rfl
                 rotate_left
                 · simp only [Act.put, List.setIfInBounds_toArray, List.set_cons_zero, List.set_cons_succ, i64_w, i32_w]
                   rfl
                 refine pure_ (i := 20) (N := some 41) (v := ?_) (a' := ?_) #[true, true, true, true, true, true, true, true, true, true, true, true, true, true, true, true, true, true, true, true, true, false, false, false, false, false, false, false, false, false, false, false] rfl rfl (any_of HT_.out (by kernel_rfl)) (fun _ _ _ h => h) (Or.inl ⟨by rfl, ?_⟩) ?_ ?_
                 rotate_left
                 · intro w'
                   go_simp
                   with_reducible rfl
                 rotate_left
                 · simp only [Act.put, List.setIfInBounds_toArray, List.set_cons_zero, List.set_cons_succ, i64_w, i32_w]
                   rfl
                 refine pure_ (i := 21) (N := some 42) (v := ?_) (a' := ?_) #[true, true, true, true, true, true, true, true, true, true, true, true, true, true, true, true, true, true, true, true, true, true, false, false, false, false, false, false, false, false, false, false] rfl rfl (any_of HT_.out (by kernel_rfl)) (fun _ _ _ h => h) (Or.inl ⟨by rfl, ?_⟩) ?_ ?_
                 rotate_left
                 · intro w'
                   go_simp
                   with_reducible rfl
                 rotate_left
                 · simp only [Act.put, List.setIfInBounds_toArray, List.set_cons_zero, List.set_cons_succ, i64_w, i32_w]
                   rfl
                 refine take_ (i := 22) (N := some 43) (v := ?_) (a' := ?_) #[true, true, true, true, true, true, true, true, true, true, true, true, true, true, true, true, true, true, true, true, true, true, true, false, false, false, false, false, false, false, false, false] rfl rfl (take_ofW HT_.out HW_.out (by kernel_rfl)) (fun _ _ _ h => h) (Or.inl ⟨by rfl, ?_⟩) hHeld ?_ ?_
                 rotate_left
                 · rintro w' ⟨s0, s1, s2, s3, s4, s5⟩
                   go_simp
                   with_reducible rfl
                 rotate_left
                 · simp only [Act.put, List.setIfInBounds_toArray, List.set_cons_zero, List.set_cons_succ, i64_w, i32_w]
                   rfl
                 refine take_ (i := 23) (N := some 44) (v := ?_) (a' := ?_) #[true, true, true, true, true, true, true, true, true, true, true, true, true, true, true, true, true, true, true, true, true, true, true, true, false, false, false, false, false, false, false, false] rfl rfl (take_ofW HT_.out HW_.out (by kernel_rfl)) (fun _ _ _ h => h) (Or.inl ⟨by rfl, ?_⟩) hHeld ?_ ?_
                 rotate_left
                 · rintro w' ⟨s0, s1, s2, s3, s4, s5⟩
                   go_simp
                   with_reducible rfl
                 rotate_left
                 · simp only [Act.put, List.setIfInBounds_toArray, List.set_cons_zero, List.set_cons_succ, i64_w, i32_w]
                   rfl
                 refine one_ (i := 24) (N := some 45) #[true, true, true, true, true, true, true, true, true, true, true, true, true, true, true, true, true, true, true, true, true, true, true, true, true, false, false, false, false, false, false, false] rfl rfl (one_of HT_.out (by kernel_rfl)) (by decide) (fun K hK => ?_)
                 refine goes_ Try.func21 (by kernel_rfl) rfl #[.agg #[.int .i64 t391, .slice Ao37 t392.length co37, .slice Ao38 t395.length co38], .agg #[.int .i64 a0_0, .slice A0_1 l0_1.length c0_1, .slice A0_2 l0_2.length c0_2]] (by rfl) rfl rfl (by (try simp only [List.map_toArray, List.map_cons, List.map_nil]); first | done | rfl | (simp only [List.length_drop, List.length_take]; rfl)) ?_
                 with_reducible refine (r5_Same.calls kj4 t391 _ _ t392 _ _ t395 a0_0 _ _ l0_1 _ _ l0_2 true _ ?side1 ?side2 ?side3 ?side4 ?side5 ?side6 ?side7 ?side8 A26.out).mono ?_
                 (case side1 => repeat (first | exact (Kd.R_reads' HO394.out).2.2 | (with_reducible refine Kd.C_alloc ?_ _) | (with_reducible refine Kd.C_drewN ?_ _) | (with_reducible refine Kd.C_drew ?_)))
                 (case side2 => exact (Kd.R_reads' HO394.out).2.1)
                 (case side3 => repeat (first | exact (Kd.R_reads' HO397.out).2.2 | (with_reducible refine Kd.C_alloc ?_ _) | (with_reducible refine Kd.C_drewN ?_ _) | (with_reducible refine Kd.C_drew ?_)))
                 (case side4 => exact (Kd.R_reads' HO397.out).2.1)
                 (case side5 => repeat (first | exact (Kd.C_below HR0_1.out HB.out) | (with_reducible refine Kd.C_alloc ?_ _) | (with_reducible refine Kd.C_drewN ?_ _) | (with_reducible refine Kd.C_drew ?_)))
                 (case side6 => exact HC0_1.out)
                 (case side7 => repeat (first | exact (Kd.C_below HR0_2.out HB.out) | (with_reducible refine Kd.C_alloc ?_ _) | (with_reducible refine Kd.C_drewN ?_ _) | (with_reducible refine Kd.C_drew ?_)))
                 (case side8 => exact HC0_2.out)
                 rintro e w48 ⟨rfl, hb⟩
                 refine ⟨_, rfl, ?_⟩
                 have n0_ := aM (Kd.R_below (by (with_reducible repeat (first | apply kA | apply kN | apply kD)); exact HO394.out) hb)
                 have n1_ := aM (Kd.R_below (by (with_reducible repeat (first | apply kA | apply kN | apply kD)); exact HO397.out) hb)
                 have n2_ := aM (Kd.R_below (by (with_reducible repeat (first | apply kA | apply kN | apply kD)); exact HO403.out) hb)
                 have n3_ := aM (blk_below (g := gb388) (o := .cells #[.int .i64 a0_0, .slice A0_1 l0_1.length c0_1, .slice A0_2 l0_2.length c0_2] 25 (0, 0)) (by (with_reducible repeat (first | apply bkN | apply bkD | apply bkA)); exact BK388.out) hb)
                 have n4_ := aM (blk_below (g := gb404) (o := .cells #[.int .i64 t391, .slice Ao37 t392.length co37, .slice Ao38 t395.length co38] 25 (0, 0)) (by (with_reducible repeat (first | apply bkN | apply bkD | apply bkA)); exact BK404.out) hb)
                 have n5_ := aM (below_step (by repeat (first | (with_reducible first | exact HB.out | apply blA | apply blN | apply blD | refine bS ?_ GE388.out | refine bS ?_ GE404.out) | exact HB.out)) hb)
                 clear HO394
                 clear HO397
                 clear HO403
                 clear BK388
                 clear BK404
                 clear HB
                 have HO394 := n0_
                 have HO397 := n1_
                 have HO403 := n2_
                 have BK388 := n3_
                 have BK404 := n4_
                 have HB := n5_
                 clear n0_ n1_ n2_ n3_ n4_ n5_
                 (try clear hb)
                 (try clear hb2)
                 (try clear hk)
                 (try clear hi)
                 refine hK.out _ _ ⟨(blk_cell BK404.out 0).trans rfl, (blk_cell BK404.out 1).trans rfl, (blk_cell BK404.out 2).trans rfl, (blk_cell BK388.out 0).trans rfl, (blk_cell BK388.out 1).trans rfl, (blk_cell BK388.out 2).trans rfl⟩ (fun hHeld => ?_)
                 clear hK K
                 refine norm_ (a' := ?_) ?_ ?_
                 rotate_left
                 · show Act.put _ (some 45) _ = _
                   simp only [Act.put, List.setIfInBounds_toArray, List.set_cons_zero, List.set_cons_succ, i64_w, i32_w]
                   rfl
                 refine pure_ (i := 25) (N := some 46) (v := ?_) (a' := ?_) #[true, true, true, true, true, true, true, true, true, true, true, true, true, true, true, true, true, true, true, true, true, true, true, true, true, true, false, false, false, false, false, false] rfl rfl (any_of HT_.out (by kernel_rfl)) (fun _ _ _ h => h) (Or.inl ⟨by rfl, ?_⟩) ?_ ?_
                 rotate_left
                 · intro w'
                   go_simp
                   with_reducible rfl
                 rotate_left
                 · simp only [Act.put, List.setIfInBounds_toArray, List.set_cons_zero, List.set_cons_succ, i64_w, i32_w]
                   rfl
                 refine pure_ (i := 26) (N := some 47) (v := ?_) (a' := ?_) #[true, true, true, true, true, true, true, true, true, true, true, true, true, true, true, true, true, true, true, true, true, true, true, true, true, true, true, false, false, false, false, false] rfl rfl (any_of HT_.out (by kernel_rfl)) (fun _ _ _ h => h) (Or.inl ⟨by rfl, ?_⟩) ?_ ?_
                 rotate_left
                 · intro w'
                   go_simp
                   with_reducible rfl
                 rotate_left
                 · simp only [Act.put, List.setIfInBounds_toArray, List.set_cons_zero, List.set_cons_succ, i64_w, i32_w]
                   rfl
                 refine pure_ (i := 27) (N := some 48) (v := ?_) (a' := ?_) #[true, true, true, true, true, true, true, true, true, true, true, true, true, true, true, true, true, true, true, true, true, true, true, true, true, true, true, true, false, false, false, false] rfl rfl (any_of HT_.out (by kernel_rfl)) (fun _ _ _ h => h) (Or.inl ⟨by rfl, ?_⟩) ?_ ?_
                 rotate_left
                 · intro w'
                   go_simp
                   with_reducible rfl
                 rotate_left
                 · simp only [Act.put, List.setIfInBounds_toArray, List.set_cons_zero, List.set_cons_succ, i64_w, i32_w]
                   rfl
                 refine pure_ (i := 28) (N := some 49) (v := ?_) (a' := ?_) #[true, true, true, true, true, true, true, true, true, true, true, true, true, true, true, true, true, true, true, true, true, true, true, true, true, true, true, true, true, false, false, false] rfl rfl (any_of HT_.out (by kernel_rfl)) (fun _ _ _ h => h) (Or.inl ⟨by rfl, ?_⟩) ?_ ?_
                 rotate_left
                 · intro w'
                   go_simp
                   with_reducible rfl
                 rotate_left
                 · simp only [Act.put, List.setIfInBounds_toArray, List.set_cons_zero, List.set_cons_succ, i64_w, i32_w]
                   rfl
                 refine one_ (i := 29) (N := some 50) #[true, true, true, true, true, true, true, true, true, true, true, true, true, true, true, true, true, true, true, true, true, true, true, true, true, true, true, true, true, true, false, false] rfl rfl (one_of HT_.out (by kernel_rfl)) (by decide) (fun K hK => ?_)
                 refine goes_ Try.func22 (by kernel_rfl) rfl #[.slice Ao43 y401.length co43, .slice A1 l1.length c1] (by rfl) rfl rfl (by (try simp only [List.map_toArray, List.map_cons, List.map_nil]); first | done | rfl | (simp only [List.length_drop, List.length_take]; rfl)) ?_
                 with_reducible refine (r1_Nums.calls kj4 _ _ y401 _ _ l1 t412 _ ?side1 ?side2 ?side3 ?side4 A28.out).mono ?_
                 (case side1 => repeat (first | exact (Kd.R_reads' HO403.out).2.2 | (with_reducible refine Kd.C_alloc ?_ _) | (with_reducible refine Kd.C_drewN ?_ _) | (with_reducible refine Kd.C_drew ?_)))
                 (case side2 => exact (Kd.R_reads' HO403.out).2.1)
                 (case side3 => repeat (first | exact (Kd.C_below HR1.out HB.out) | (with_reducible refine Kd.C_alloc ?_ _) | (with_reducible refine Kd.C_drewN ?_ _) | (with_reducible refine Kd.C_drew ?_)))
                 (case side4 => exact HC1.out)
                 rintro e w' ⟨rfl, ⟨nd, rfl⟩⟩
                 refine ⟨_, rfl, ?_⟩
                 refine hK.out _ _ ⟨(blk_cell BK404.out 0).trans rfl, (blk_cell BK404.out 1).trans rfl, (blk_cell BK404.out 2).trans rfl, (blk_cell BK388.out 0).trans rfl, (blk_cell BK388.out 1).trans rfl, (blk_cell BK388.out 2).trans rfl⟩ (fun hHeld => ?_)
                 clear hK K
                 refine norm_ (a' := ?_) ?_ ?_
                 rotate_left
                 · show Act.put _ (some 50) _ = _
                   simp only [Act.put, List.setIfInBounds_toArray, List.set_cons_zero, List.set_cons_succ, i64_w, i32_w]
                   rfl
                 refine pure_ (i := 30) (N := some 51) (v := ?_) (a' := ?_) #[true, true, true, true, true, true, true, true, true, true, true, true, true, true, true, true, true, true, true, true, true, true, true, true, true, true, true, true, true, true, true, false] rfl rfl (any_of HT_.out (by kernel_rfl)) (fun _ _ _ h => h) (Or.inl ⟨by rfl, ?_⟩) ?_ ?_
                 rotate_left
                 · intro w'
                   go_simp
                   with_reducible rfl
                 rotate_left
                 · simp only [Act.put, List.setIfInBounds_toArray, List.set_cons_zero, List.set_cons_succ, i64_w, i32_w]
                   rfl
                 refine pure_ (i := 31) (N := some 4) (v := ?_) (a' := ?_) #[true, true, true, true, true, true, true, true, true, true, true, true, true, true, true, true, true, true, true, true, true, true, true, true, true, true, true, true, true, true, true, true] rfl rfl (any_of HT_.out (by kernel_rfl)) (fun _ _ _ h => h) (Or.inl ⟨by rfl, ?_⟩) ?_ ?_
                 rotate_left
                 · intro w'
                   go_simp
                   with_reducible rfl
                 rotate_left
                 · simp only [Act.put, List.setIfInBounds_toArray, List.set_cons_zero, List.set_cons_succ, i64_w, i32_w]
                   rfl
                 refine done_ (done_of HT_.out (by kernel_rfl)) ?_
                 try go_wp2
                 first | go_ret | refine ⟨_, results_tmp rfl _ _ _, ?_⟩
                 exact ⟨by first | rfl | (simp [errW_none, errW_some] <;> rfl) | (simp [*, errW_none, errW_some] <;> rfl), by repeat (first | (with_reducible first | exact HB.out | apply blA | apply blN | apply blD | refine bS ?_ GE388.out | refine bS ?_ GE404.out) | exact HB.out)⟩
               · replace c27 := Bool.eq_false_iff.mpr c27
                 subst c27
                 have H1 : (none) = some r := by rw [if_neg (show ¬ (false = true) by decide)] at H; exact H
                 clear H
                 have H := H1
                 clear H1
                 exact absurd H (by simp)
             · rw [if_neg c25] at H
               exact absurd H (by simp)
           · rw [if_neg c22] at H
             exact absurd H (by simp)
         · rw [if_neg c19] at H
           exact absurd H (by simp)
       · rw [if_neg c16] at H
         exact absurd H (by simp)
 · replace c4 := Bool.eq_false_iff.mpr c4
   subst c4
   have H1 : (none) = some r := by rw [if_neg (show ¬ (false = true) by decide)] at H; exact H
   clear H
   have H := H1
   clear H1
   exact absurd H (by simp)
end Go.Proofs.Ytlkjfjlmjgkheaa.G
