import Derived.Test.YtlkjfjlmjgkheaaGx0
import Derived.Test.YtlkjfjlmjgkheaaGx14
namespace Go.Proofs.Ytlkjfjlmjgkheaa.G
open Go.RowKit Go.Proofs.YtlkjfjlmjgkheaaW.PrintWords Go.Proofs.YtlkjfjlmjgkheaaW.PrintLast Go.Proofs.YtlkjfjlmjgkheaaW.PrintMore
attribute [local go_sem] max2_int min2_int max_two min_two max_three min_three max_four min_four
set_option linter.unusedVariables false
set_option linter.unusedSimpArgs false
mutual
def r5_Same.j0 : Nat → Bool → Int → List (S66) → List (S25) → Int → List (S66) → List (S25) → Option (Bool)
 | 0, _, _, _, _, _, _, _ => none
 | k + 1, x27, x381000, x381001, x381002, x382000, x382001, x382002 => if x27 = true then (some false) else (r5_Same.l0 k (x381002.length : Int) 0 x381000 x381001 x381002 x382000 x382001 x382002)
def r5_Same.l0 : Nat → Int → Int → Int → List (S66) → List (S25) → Int → List (S66) → List (S25) → Option (Bool)
 | 0, _, _, _, _, _, _, _, _ => none
 | k + 1, x30, x31, x381000, x381001, x381002, x382000, x382001, x382002 => if x31 < x30 then (if 0 ≤ x31 then (if x31 < (x381002.length : Int) then (if x31 < (x382002.length : Int) then ((r5_Same.f k ((rd_T25 x381002 x31).f0) ((rd_T25 x381002 x31).f1) ((rd_T25 x381002 x31).f2) ((rd_T25 x382002 x31).f0) ((rd_T25 x382002 x31).f1) ((rd_T25 x382002 x31).f2)).bind fun t385 => (if t385 = true then (r5_Same.l0 k x30 (wrap64 (x31 + 1)) x381000 x381001 x381002 x382000 x382001 x382002) else (some false))) else (none)) else (none)) else (none)) else (some true)
def r5_Same.f : Nat → Int → List (S66) → List (S25) → Int → List (S66) → List (S25) → Option (Bool)
 | 0, _, _, _, _, _, _ => none
 | k + 1, a0_0, l0_1, l0_2, a1_0, l1_1, l1_2 => if a0_0 = a1_0 then ((r1_Same.f k l0_1 l1_1).bind fun t382 => (if t382 = true then (r5_Same.j0 k ((l0_2.length : Int) != (l1_2.length : Int)) a0_0 l0_1 l0_2 a1_0 l1_1 l1_2) else (r5_Same.j0 k true a0_0 l0_1 l0_2 a1_0 l1_1 l1_2))) else (r5_Same.j0 k true a0_0 l0_1 l0_2 a1_0 l1_1 l1_2)
end
def r5_Same.T6 : Bool × List (List Nat × List Nat) := (true, [([], []), ([0], [0]), ([], []), ([1, 2], [1, 2]), ([3], [3]), ([], []), ([5], [5]), ([], []), ([6, 7], [6, 7]), ([8], [8]), ([4, 9], [4, 9]), ([10], [10])])
def r5_Same.B6 : List Nat := [0, 1, 0, 7, 15, 0, 32, 0, 224, 480, 1023, 2047]
theorem r5_Same.tab6 : rtab .any (opsOf Try.f21 6) = r5_Same.T6 := by kernel_rfl
theorem r5_Same.bits6 : waitsOk r5_Same.T6.2 r5_Same.B6 = true := by kernel_rfl
set_option maxHeartbeats 8000000 in
set_option maxRecDepth 100000 in
theorem r5_Same.calls (k : Nat) : ∀ (a0_0 : Int) (A0_1 : Option Addr) (c0_1 : Nat) (l0_1 : List (S66)) (A0_2 : Option Addr) (c0_2 : Nat) (l0_2 : List (S25)) (a1_0 : Int) (A1_1 : Option Addr) (c1_1 : Nat) (l1_1 : List (S66)) (A1_2 : Option Addr) (c1_2 : Nat) (l1_2 : List (S25)) (r : Bool) (w : World) (hr0_1 : Kd.C k66 w A0_1 l0_1.length l0_1) (hc0_1 : l0_1.length ≤ c0_1) (hr0_2 : Kd.C k25 w A0_2 l0_2.length l0_2) (hc0_2 : l0_2.length ≤ c0_2) (hr1_1 : Kd.C k66 w A1_1 l1_1.length l1_1) (hc1_1 : l1_1.length ≤ c1_1) (hr1_2 : Kd.C k25 w A1_2 l1_2.length l1_2) (hc1_2 : l1_2.length ≤ c1_2) (h : r5_Same.f k a0_0 l0_1 l0_2 a1_0 l1_1 l1_2 = some r),
 Calls Try.prog 21 #[.agg #[.int .i64 a0_0, .slice A0_1 l0_1.length c0_1, .slice A0_2 l0_2.length c0_2], .agg #[.int .i64 a1_0, .slice A1_1 l1_1.length c1_1, .slice A1_2 l1_2.length c1_2]] w fun e w' => e = .returned (.bool r) ∧ Below w.heap.size w w' := by
 induction k using Nat.strongRecOn with
 | _ k ih =>
 intro a0_0 A0_1 c0_1 l0_1 A0_2 c0_2 l0_2 a1_0 A1_1 c1_1 l1_1 A1_2 c1_2 l1_2 r w hr0_1 hc0_1 hr0_2 hc0_2 hr1_1 hc1_1 hr1_2 hc1_2 h
 cases k with
 | zero => exact absurd h (by simp [r5_Same.f])
 | succ k =>
 simp only [r5_Same.f] at h
 have hu25 := Try.underlying25
 have HR0_1 := aM hr0_1
 have HC0_1 := aM hc0_1
 clear hr0_1 hc0_1
 have HR0_2 := aM hr0_2
 have HC0_2 := aM hc0_2
 clear hr0_2 hc0_2
 have HR1_1 := aM hr1_1
 have HC1_1 := aM hc1_1
 clear hr1_1 hc1_1
 have HR1_2 := aM hr1_2
 have HC1_2 := aM hc1_2
 clear hr1_2 hc1_2
 have HB := aM (Below.refl w.heap.size w)
 have H : (if a0_0 = a1_0 then ((r1_Same.f k l0_1 l1_1).bind fun t382 => (if t382 = true then (r5_Same.j0 k ((l0_2.length : Int) != (l1_2.length : Int)) a0_0 l0_1 l0_2 a1_0 l1_1 l1_2) else (r5_Same.j0 k true a0_0 l0_1 l0_2 a1_0 l1_1 l1_2))) else (r5_Same.j0 k true a0_0 l0_1 l0_2 a1_0 l1_1 l1_2)) = some r := h
 clear h
 have HC3 := aM H
 clear H
 go_enter Try.func21, Try.ntmps21
 go_upto_region 1 with (first | ((with_reducible refine gate_dst (N := 2) rfl ?_); (try (refine gate_guard (by rfl) ?_; dsimp only)); refine box_event ?hg (N := 2) ?hd (cs := #[.int .i64 a0_0, .slice A0_1 l0_1.length c0_1, .slice A0_2 l0_2.length c0_2]) (t := 25) ?hr ?_; (case hd => rfl); (case hg => rfl); (case hr => first | (go_simp; done) | (go_simp; rfl)); intro gb380 hg w4 hbox hb; have n0_ := aM (below_step (by repeat (first | (with_reducible first | exact HB.out | apply blA | apply blN | apply blD) | exact HB.out)) hb); have n1_ := aM (hbox); have n2_ := aM ((by rw [hg]; exact (below_size (by repeat (first | (with_reducible first | exact HB.out | apply blA | apply blN | apply blD) | exact HB.out))) : w.heap.size ≤ gb380)); have n3_ := aM ((by rw [hg]; exact (below_size (by repeat (first | (with_reducible first | exact HB.out | apply blA | apply blN | apply blD) | exact HB.out))) : w.heap.size ≤ gb380)); clear HB; have HB := n0_; have BK380 := n1_; have GW380 := n2_; have GE380 := n3_; clear n0_ n1_ n2_ n3_; clear hb hbox hg) | ((with_reducible refine gate_dst (N := 3) rfl ?_); (try (refine gate_guard (by rfl) ?_; dsimp only)); refine box_event ?hg (N := 3) ?hd (cs := #[.int .i64 a1_0, .slice A1_1 l1_1.length c1_1, .slice A1_2 l1_2.length c1_2]) (t := 25) ?hr ?_; (case hd => rfl); (case hg => rfl); (case hr => first | (go_simp; done) | (go_simp; rfl)); intro gb381 hg w5 hbox hb; have n0_ := aM (blk_below (g := gb380) (o := .cells #[.int .i64 a0_0, .slice A0_1 l0_1.length c0_1, .slice A0_2 l0_2.length c0_2] 25 (0, 0)) (by (with_reducible repeat (first | apply bkN | apply bkD | apply bkA)); exact BK380.out) hb); have n1_ := aM (below_step (by repeat (first | (with_reducible first | exact HB.out | apply blA | apply blN | apply blD | refine bS ?_ GE380.out) | exact HB.out)) hb); have n2_ := aM (hbox); have n3_ := aM ((by rw [hg]; exact (below_size (by repeat (first | (with_reducible first | exact HB.out | apply blA | apply blN | apply blD | refine bS ?_ GE380.out) | exact HB.out))) : w.heap.size ≤ gb381)); have n4_ := aM ((by rw [hg]; exact (below_size (by repeat (first | (with_reducible first | exact HB.out | apply blA | apply blN | apply blD | refine bS ?_ GE380.out) | exact HB.out))) : w.heap.size ≤ gb381)); have n5_ := aM ((by rw [hg]; exact Nat.ne_of_lt (blk_lt (g := gb380) (o := .cells #[.int .i64 a0_0, .slice A0_1 l0_1.length c0_1, .slice A0_2 l0_2.length c0_2] 25 (0, 0)) (by (with_reducible repeat (first | apply bkN | apply bkD | apply bkA)); exact BK380.out)) : gb380 ≠ gb381)); have n6_ := aM ((by rw [hg]; exact Nat.ne_of_gt (blk_lt (g := gb380) (o := .cells #[.int .i64 a0_0, .slice A0_1 l0_1.length c0_1, .slice A0_2 l0_2.length c0_2] 25 (0, 0)) (by (with_reducible repeat (first | apply bkN | apply bkD | apply bkA)); exact BK380.out)) : gb381 ≠ gb380)); clear BK380; clear HB; have BK380 := n0_; have HB := n1_; have BK381 := n2_; have GW381 := n3_; have GE381 := n4_; have NB380_381 := n5_; have NB381_380 := n6_; clear n0_ n1_ n2_ n3_ n4_ n5_ n6_; clear hb hbox hg))
 (try simp only [Act.put, List.setIfInBounds_toArray, List.set_cons_zero, List.set_cons_succ])
 go_cut [27] (fun v27 wc => ∃ (kq : Nat) (x27_2 : Bool), v27 = .bool x27_2 ∧ Aside0 (r5_Same.j0 kq x27_2 a0_0 l0_1 l0_2 a1_0 l1_1 l1_2 = some r) ∧ Aside0 (kq ≤ k) ∧ Aside0 (wc.heap[gb380]? = some (.cells #[.int .i64 a0_0, (.slice A0_1 l0_1.length c0_1), (.slice A0_2 l0_2.length c0_2)] 25 (0, 0))) ∧ Aside0 (wc.heap[gb381]? = some (.cells #[.int .i64 a1_0, (.slice A1_1 l1_1.length c1_1), (.slice A1_2 l1_2.length c1_2)] 25 (0, 0))) ∧ Aside0 (Below w.heap.size w wc))
 case first =>
  have H := HC3.out
  clear HC3
  by_cases c6 : a0_0 = a1_0
  · rw [if_pos c6] at H
    have c6b0 : (a0_0 == a1_0) = true := beq_iff_eq.mpr c6
    have c6b1 : (a0_0 != a1_0) = false := bne_eq_false_iff_eq.mpr c6
    clear c6
    (first | rw [c6b0] | (simp only [i64_w, i32_w]; rw [c6b0]) | skip)
    replace H := Option.bind_eq_some_iff.mp H
    obtain ⟨t382, A70, H⟩ := H
    replace H : (if t382 = true then (r5_Same.j0 k ((l0_2.length : Int) != (l1_2.length : Int)) a0_0 l0_1 l0_2 a1_0 l1_1 l1_2) else (r5_Same.j0 k true a0_0 l0_1 l0_2 a1_0 l1_1 l1_2)) = some r := H
    have A7 := aM A70
    clear A70
    by_cases c8 : t382 = true
    · subst c8
      have H1 : (r5_Same.j0 k ((l0_2.length : Int) != (l1_2.length : Int)) a0_0 l0_1 l0_2 a1_0 l1_1 l1_2) = some r := by rw [if_pos rfl] at H; exact H
      clear H
      have H := H1
      clear H1
      have H' := aM H
      clear H
      have hnb9 := NB380_381.out
      have hnc9 := NB381_380.out
      have hcz10_0 : w5.cell? ⟨gb380, 0, none⟩ = some (.int .i64 a0_0) := (blk_cell BK380.out 0).trans rfl
      have hcz10_1 : w5.cell? ⟨gb380, 1, none⟩ = some (.slice A0_1 l0_1.length c0_1) := (blk_cell BK380.out 1).trans rfl
      have hcz10_2 : w5.cell? ⟨gb380, 2, none⟩ = some (.slice A0_2 l0_2.length c0_2) := (blk_cell BK380.out 2).trans rfl
      have hfz10_0 := bF BK380.out 0
      have hfz10_1 := bF BK380.out 1
      have hfz10_2 := bF BK380.out 2
      have hcz11_0 : w5.cell? ⟨gb381, 0, none⟩ = some (.int .i64 a1_0) := (blk_cell BK381.out 0).trans rfl
      have hcz11_1 : w5.cell? ⟨gb381, 1, none⟩ = some (.slice A1_1 l1_1.length c1_1) := (blk_cell BK381.out 1).trans rfl
      have hcz11_2 : w5.cell? ⟨gb381, 2, none⟩ = some (.slice A1_2 l1_2.length c1_2) := (blk_cell BK381.out 2).trans rfl
      have hfz11_0 := bF BK381.out 0
      have hfz11_1 := bF BK381.out 1
      have hfz11_2 := bF BK381.out 2
      go_wp2_with (first | (go_at_call 49; (with_reducible refine (r1_Same.calls k _ _ l0_1 _ _ l1_1 true _ ?side1 ?side2 ?side3 ?side4 A7.out).mono ?_); (case side1 => repeat (first | exact (Kd.C_below HR0_1.out HB.out) | (with_reducible refine Kd.C_alloc ?_ _) | (with_reducible refine Kd.C_drewN ?_ _) | (with_reducible refine Kd.C_drew ?_))); (case side2 => exact HC0_1.out); (case side3 => repeat (first | exact (Kd.C_below HR1_1.out HB.out) | (with_reducible refine Kd.C_alloc ?_ _) | (with_reducible refine Kd.C_drewN ?_ _) | (with_reducible refine Kd.C_drew ?_))); (case side4 => exact HC1_1.out); rintro e w' ⟨rfl, ⟨nd, rfl⟩⟩))
      go_meet
      case rel => exact ⟨_, (((l0_2.length : Int) != (l1_2.length : Int))), (by first | rfl | (simp; done) | (simp [*]; done)), H', ⟨by first | omega | exact Nat.le_refl _⟩, ⟨by (with_reducible repeat (first | apply bkN | apply bkD | apply bkA)); exact BK380.out⟩, ⟨by (with_reducible repeat (first | apply bkN | apply bkD | apply bkA)); exact BK381.out⟩, ⟨by repeat (first | (with_reducible first | exact HB.out | apply blA | apply blN | apply blD | refine bS ?_ GE380.out | refine bS ?_ GE381.out) | exact HB.out)⟩⟩
    · replace c8 := Bool.eq_false_iff.mpr c8
      subst c8
      have H1 : (r5_Same.j0 k true a0_0 l0_1 l0_2 a1_0 l1_1 l1_2) = some r := by rw [if_neg (show ¬ (false = true) by decide)] at H; exact H
      clear H
      have H := H1
      clear H1
      have H' := aM H
      clear H
      have hnb12 := NB380_381.out
      have hnc12 := NB381_380.out
      have hcz13_0 : w5.cell? ⟨gb380, 0, none⟩ = some (.int .i64 a0_0) := (blk_cell BK380.out 0).trans rfl
      have hcz13_1 : w5.cell? ⟨gb380, 1, none⟩ = some (.slice A0_1 l0_1.length c0_1) := (blk_cell BK380.out 1).trans rfl
      have hcz13_2 : w5.cell? ⟨gb380, 2, none⟩ = some (.slice A0_2 l0_2.length c0_2) := (blk_cell BK380.out 2).trans rfl
      have hfz13_0 := bF BK380.out 0
      have hfz13_1 := bF BK380.out 1
      have hfz13_2 := bF BK380.out 2
      have hcz14_0 : w5.cell? ⟨gb381, 0, none⟩ = some (.int .i64 a1_0) := (blk_cell BK381.out 0).trans rfl
      have hcz14_1 : w5.cell? ⟨gb381, 1, none⟩ = some (.slice A1_1 l1_1.length c1_1) := (blk_cell BK381.out 1).trans rfl
      have hcz14_2 : w5.cell? ⟨gb381, 2, none⟩ = some (.slice A1_2 l1_2.length c1_2) := (blk_cell BK381.out 2).trans rfl
      have hfz14_0 := bF BK381.out 0
      have hfz14_1 := bF BK381.out 1
      have hfz14_2 := bF BK381.out 2
      go_wp2_with (first | (go_at_call 49; (with_reducible refine (r1_Same.calls k _ _ l0_1 _ _ l1_1 false _ ?side1 ?side2 ?side3 ?side4 A7.out).mono ?_); (case side1 => repeat (first | exact (Kd.C_below HR0_1.out HB.out) | (with_reducible refine Kd.C_alloc ?_ _) | (with_reducible refine Kd.C_drewN ?_ _) | (with_reducible refine Kd.C_drew ?_))); (case side2 => exact HC0_1.out); (case side3 => repeat (first | exact (Kd.C_below HR1_1.out HB.out) | (with_reducible refine Kd.C_alloc ?_ _) | (with_reducible refine Kd.C_drewN ?_ _) | (with_reducible refine Kd.C_drew ?_))); (case side4 => exact HC1_1.out); rintro e w' ⟨rfl, ⟨nd, rfl⟩⟩))
      go_meet
      case rel => exact ⟨_, (true), (by first | rfl | (simp; done) | (simp [*]; done)), H', ⟨by first | omega | exact Nat.le_refl _⟩, ⟨by (with_reducible repeat (first | apply bkN | apply bkD | apply bkA)); exact BK380.out⟩, ⟨by (with_reducible repeat (first | apply bkN | apply bkD | apply bkA)); exact BK381.out⟩, ⟨by repeat (first | (with_reducible first | exact HB.out | apply blA | apply blN | apply blD | refine bS ?_ GE380.out | refine bS ?_ GE381.out) | exact HB.out)⟩⟩
  · rw [if_neg c6] at H
    have c6b0 : (a0_0 == a1_0) = false := beq_eq_false_iff_ne.mpr c6
    have c6b1 : (a0_0 != a1_0) = true := bne_iff_ne.mpr c6
    (first | rw [c6b0] | (simp only [i64_w, i32_w]; rw [c6b0]) | skip)
    have H' := aM H
    clear H
    have hnb15 := NB380_381.out
    have hnc15 := NB381_380.out
    have hcz16_0 : w5.cell? ⟨gb380, 0, none⟩ = some (.int .i64 a0_0) := (blk_cell BK380.out 0).trans rfl
    have hcz16_1 : w5.cell? ⟨gb380, 1, none⟩ = some (.slice A0_1 l0_1.length c0_1) := (blk_cell BK380.out 1).trans rfl
    have hcz16_2 : w5.cell? ⟨gb380, 2, none⟩ = some (.slice A0_2 l0_2.length c0_2) := (blk_cell BK380.out 2).trans rfl
    have hfz16_0 := bF BK380.out 0
    have hfz16_1 := bF BK380.out 1
    have hfz16_2 := bF BK380.out 2
    have hcz17_0 : w5.cell? ⟨gb381, 0, none⟩ = some (.int .i64 a1_0) := (blk_cell BK381.out 0).trans rfl
    have hcz17_1 : w5.cell? ⟨gb381, 1, none⟩ = some (.slice A1_1 l1_1.length c1_1) := (blk_cell BK381.out 1).trans rfl
    have hcz17_2 : w5.cell? ⟨gb381, 2, none⟩ = some (.slice A1_2 l1_2.length c1_2) := (blk_cell BK381.out 2).trans rfl
    have hfz17_0 := bF BK381.out 0
    have hfz17_1 := bF BK381.out 1
    have hfz17_2 := bF BK381.out 2
    go_wp2
    go_meet
    case rel => exact ⟨_, (true), (by first | rfl | (simp; done) | (simp [*]; done)), H', ⟨by first | omega | exact Nat.le_refl _⟩, ⟨by (with_reducible repeat (first | apply bkN | apply bkD | apply bkA)); exact BK380.out⟩, ⟨by (with_reducible repeat (first | apply bkN | apply bkD | apply bkA)); exact BK381.out⟩, ⟨by repeat (first | (with_reducible first | exact HB.out | apply blA | apply blN | apply blD | refine bS ?_ GE380.out | refine bS ?_ GE381.out) | exact HB.out)⟩⟩
 case rest =>
  clear HC3
  obtain ⟨kq, x27_2, rfl, HA, HJ2, BK380, BK381, HB⟩ := hcut
  cases kq with
  | zero => exact absurd HA.out (by simp [r5_Same.j0])
  | succ kj2 =>
   have H := HA.out
   clear HA
   simp only [r5_Same.j0] at H
   by_cases c18 : x27_2 = true
   · subst c18
     have H1 : (some false) = some r := by rw [if_pos rfl] at H; exact H
     clear H
     have H := H1
     clear H1
     obtain rfl := Option.some.inj H
     go_wp2
     first | go_ret | refine ⟨_, results_tmp rfl _ _ _, ?_⟩
     exact ⟨by first | rfl | (simp [errW_none, errW_some] <;> rfl) | (simp [*, errW_none, errW_some] <;> rfl), by repeat (first | (with_reducible first | exact HB.out | apply blA | apply blN | apply blD | refine bS ?_ GE380.out | refine bS ?_ GE381.out) | exact HB.out)⟩
   · replace c18 := Bool.eq_false_iff.mpr c18
     subst c18
     have H1 : (r5_Same.l0 kj2 (l0_2.length : Int) 0 a0_0 l0_1 l0_2 a1_0 l1_1 l1_2) = some r := by rw [if_neg (show ¬ (false = true) by decide)] at H; exact H
     clear H
     have H := H1
     clear H1
     have H' := aM H
     clear H
     have hnb19 := NB380_381.out
     have hnc19 := NB381_380.out
     have hcz20_0 : wc.cell? ⟨gb380, 0, none⟩ = some (.int .i64 a0_0) := (blk_cell BK380.out 0).trans rfl
     have hcz20_1 : wc.cell? ⟨gb380, 1, none⟩ = some (.slice A0_1 l0_1.length c0_1) := (blk_cell BK380.out 1).trans rfl
     have hcz20_2 : wc.cell? ⟨gb380, 2, none⟩ = some (.slice A0_2 l0_2.length c0_2) := (blk_cell BK380.out 2).trans rfl
     have hfz20_0 := bF BK380.out 0
     have hfz20_1 := bF BK380.out 1
     have hfz20_2 := bF BK380.out 2
     go_wp2
     go_loopg [31] kj2 (fun kq v31 w' => ∃ (x31_2 : Int), v31 = .int .i64 x31_2 ∧ Aside0 (r5_Same.l0 kq (l0_2.length : Int) x31_2 a0_0 l0_1 l0_2 a1_0 l1_1 l1_2 = some r) ∧ Aside0 (kq ≤ kj2) ∧ Aside0 (w'.heap[gb380]? = some (.cells #[.int .i64 a0_0, (.slice A0_1 l0_1.length c0_1), (.slice A0_2 l0_2.length c0_2)] 25 (0, 0))) ∧ Aside0 (w'.heap[gb381]? = some (.cells #[.int .i64 a1_0, (.slice A1_1 l1_1.length c1_1), (.slice A1_2 l1_2.length c1_2)] 25 (0, 0))) ∧ Aside0 (Below w.heap.size w w'))
     case atStart => exact ⟨(0), (by first | rfl | (simp; done) | (simp [*]; done)), H', ⟨Nat.le_refl _⟩, ⟨by (with_reducible repeat (first | apply bkN | apply bkD | apply bkA)); exact BK380.out⟩, ⟨by (with_reducible repeat (first | apply bkN | apply bkD | apply bkA)); exact BK381.out⟩, ⟨by repeat (first | (with_reducible first | exact HB.out | apply blA | apply blN | apply blD | refine bS ?_ GE380.out | refine bS ?_ GE381.out) | exact HB.out)⟩⟩
     case round =>
      clear H'
      obtain ⟨x31_2, rfl, HA, HK2, BK380, BK381, HB⟩ := hrel
      cases gk with
      | zero => exact absurd HA.out (by simp [r5_Same.l0])
      | succ k2 =>
       have H := HA.out
       clear HA
       simp only [r5_Same.l0] at H
       by_cases c21 : x31_2 < (l0_2.length : Int)
       · rw [if_pos c21] at H
         have c21b0 : decide (x31_2 < (l0_2.length : Int)) = true := decide_eq_true c21
         clear c21
         by_cases c22 : 0 ≤ x31_2
         · rw [if_pos c22] at H
           have c22b0 : decide (0 ≤ x31_2) = true := decide_eq_true c22
           clear c22
           by_cases c23 : x31_2 < (l0_2.length : Int)
           · rw [if_pos c23] at H
             have c23b0 : decide (x31_2 < (l0_2.length : Int)) = true := decide_eq_true c23
             clear c23
             by_cases c24 : x31_2 < (l1_2.length : Int)
             · rw [if_pos c24] at H
               have c24b0 : decide (x31_2 < (l1_2.length : Int)) = true := decide_eq_true c24
               clear c24
               replace H := Option.bind_eq_some_iff.mp H
               obtain ⟨t385, A250, H⟩ := H
               replace H : (if t385 = true then (r5_Same.l0 k2 (l0_2.length : Int) (wrap64 (x31_2 + 1)) a0_0 l0_1 l0_2 a1_0 l1_1 l1_2) else (some false)) = some r := H
               have A25 := aM A250
               clear A250
               by_cases c26 : t385 = true
               · subst c26
                 have H1 : (r5_Same.l0 k2 (l0_2.length : Int) (wrap64 (x31_2 + 1)) a0_0 l0_1 l0_2 a1_0 l1_1 l1_2) = some r := by rw [if_pos rfl] at H; exact H
                 clear H
                 have H := H1
                 clear H1
                 have H' := aM H
                 clear H
                 try go_wp2
                 have n0_ := aM (blk_drew BK380.out)
                 have n1_ := aM (blk_drew BK381.out)
                 have n2_ := aM (below_drew1 HB.out)
                 clear BK380
                 clear BK381
                 clear HB
                 have BK380 := n0_
                 have BK381 := n1_
                 have HB := n2_
                 clear n0_ n1_ n2_
                 have p383 : 0 ≤ (x31_2 : Int) := of_decide_eq_true (by first | (with_reducible assumption) | assumption)
                 have q383 : x31_2 < (l0_2.length : Int) := of_decide_eq_true (by first | (with_reducible assumption) | assumption)
                 obtain ⟨ad383, A383_1, c383_1, A383_2, c383_2, e383, hx383_0, hx383_1, hx383_2, hl383_1, hi383_1, hl383_2, hi383_2⟩ := at_T25 HR0_2.out x31_2 p383 q383
                 have hw383_2 := hx383_2
                 have hw383_1 := hx383_1
                 have hw383_0 := hx383_0
                 cases e383
                 replace hx383_0 := (HB.out.cell (World.block_lt_of_cell? w _ hx383_0)).trans hx383_0
                 replace hx383_1 := (HB.out.cell (World.block_lt_of_cell? w _ hx383_1)).trans hx383_1
                 replace hx383_2 := (HB.out.cell (World.block_lt_of_cell? w _ hx383_2)).trans hx383_2
                 have HR383_1 := aM hi383_1
                 have HC383_1 := aM hl383_1
                 clear hi383_1 hl383_1
                 have HR383_2 := aM hi383_2
                 have HC383_2 := aM hl383_2
                 clear hi383_2 hl383_2
                 replace p383 := eq_true p383
                 replace q383 := eq_true q383
                 have p384 : 0 ≤ (x31_2 : Int) := of_decide_eq_true (by first | (with_reducible assumption) | assumption)
                 have q384 : x31_2 < (l1_2.length : Int) := of_decide_eq_true (by first | (with_reducible assumption) | assumption)
                 obtain ⟨ad384, A384_1, c384_1, A384_2, c384_2, e384, hx384_0, hx384_1, hx384_2, hl384_1, hi384_1, hl384_2, hi384_2⟩ := at_T25 HR1_2.out x31_2 p384 q384
                 have hw384_2 := hx384_2
                 have hw384_1 := hx384_1
                 have hw384_0 := hx384_0
                 cases e384
                 replace hx384_0 := (HB.out.cell (World.block_lt_of_cell? w _ hx384_0)).trans hx384_0
                 replace hx384_1 := (HB.out.cell (World.block_lt_of_cell? w _ hx384_1)).trans hx384_1
                 replace hx384_2 := (HB.out.cell (World.block_lt_of_cell? w _ hx384_2)).trans hx384_2
                 have HR384_1 := aM hi384_1
                 have HC384_1 := aM hl384_1
                 clear hi384_1 hl384_1
                 have HR384_2 := aM hi384_2
                 have HC384_2 := aM hl384_2
                 clear hi384_2 hl384_2
                 replace p384 := eq_true p384
                 replace q384 := eq_true q384
                 refine start_ (n := 12) (S := fun w' => w'.cell? ⟨gb380, 0, none⟩ = some (.int .i64 a0_0) ∧ w'.cell? ⟨gb380, 1, none⟩ = some (.slice A0_1 l0_1.length c0_1) ∧ w'.cell? ⟨gb380, 2, none⟩ = some (.slice (some ad383) l0_2.length c0_2) ∧ w'.cell? ⟨gb381, 0, none⟩ = some (.int .i64 a1_0) ∧ w'.cell? ⟨gb381, 1, none⟩ = some (.slice A1_1 l1_1.length c1_1) ∧ w'.cell? ⟨gb381, 2, none⟩ = some (.slice (some ad384) l1_2.length c1_2) ∧ w'.cell? (ad383.add ((x31_2).toNat * 3)) = some (.int .i64 ((rd_T25 l0_2 x31_2).f0)) ∧ w'.cell? ⟨(ad383.add ((x31_2).toNat * 3)).block, (ad383.add ((x31_2).toNat * 3)).off + 1, none⟩ = some (.slice A383_1 ((rd_T25 l0_2 x31_2).f1).length c383_1) ∧ w'.cell? ⟨(ad383.add ((x31_2).toNat * 3)).block, (ad383.add ((x31_2).toNat * 3)).off + 2, none⟩ = some (.slice A383_2 ((rd_T25 l0_2 x31_2).f2).length c383_2) ∧ w'.cell? (ad384.add ((x31_2).toNat * 3)) = some (.int .i64 ((rd_T25 l1_2 x31_2).f0)) ∧ w'.cell? ⟨(ad384.add ((x31_2).toNat * 3)).block, (ad384.add ((x31_2).toNat * 3)).off + 1, none⟩ = some (.slice A384_1 ((rd_T25 l1_2 x31_2).f1).length c384_1) ∧ w'.cell? ⟨(ad384.add ((x31_2).toNat * 3)).block, (ad384.add ((x31_2).toNat * 3)).off + 2, none⟩ = some (.slice A384_2 ((rd_T25 l1_2 x31_2).f2).length c384_2)) (ds := []) #[false, false, false, false, false, false, false, false, false, false, false, false] (by kernel_rfl) rfl rfl ⟨(blk_cell BK380.out 0).trans rfl, (blk_cell BK380.out 1).trans rfl, (blk_cell BK380.out 2).trans rfl, (blk_cell BK381.out 0).trans rfl, (blk_cell BK381.out 1).trans rfl, (blk_cell BK381.out 2).trans rfl, ((HB.out.cell (World.block_lt_of_cell? w _ hw383_0)).trans hw383_0), ((HB.out.cell (World.block_lt_of_cell? w _ hw383_1)).trans hw383_1), ((HB.out.cell (World.block_lt_of_cell? w _ hw383_2)).trans hw383_2), ((HB.out.cell (World.block_lt_of_cell? w _ hw384_0)).trans hw384_0), ((HB.out.cell (World.block_lt_of_cell? w _ hw384_1)).trans hw384_1), ((HB.out.cell (World.block_lt_of_cell? w _ hw384_2)).trans hw384_2)⟩ (fun hHeld => ?_); refine with_tabW r5_Same.tab6 r5_Same.bits6 (fun HT_ HW_ => ?_)
                 generalize wr.drew = w27 at BK380 BK381 HB HR383_1 HR383_2 HR384_1 HR384_2 hx383_0 hx383_1 hx383_2 hx384_0 hx384_1 hx384_2 hHeld ⊢
                 refine pure_ (i := 0) (N := some 34) (v := ?_) (a' := ?_) #[true, false, false, false, false, false, false, false, false, false, false, false] rfl rfl (any_of HT_.out (by kernel_rfl)) (fun _ _ _ h => h) (Or.inl ⟨by rfl, ?_⟩) ?_ ?_
                 rotate_left
                 · intro w'
                   go_simp
                   with_reducible rfl
                 rotate_left
                 · simp only [Act.put, List.setIfInBounds_toArray, List.set_cons_zero, List.set_cons_succ, i64_w, i32_w]
                   rfl
                 refine pure_ (i := 2) (N := some 36) (v := ?_) (a' := ?_) #[true, false, true, false, false, false, false, false, false, false, false, false] rfl rfl (any_of HT_.out (by kernel_rfl)) (fun _ _ _ h => h) (Or.inl ⟨by rfl, ?_⟩) ?_ ?_
                 rotate_left
                 · intro w'
                   go_simp
                   with_reducible rfl
                 rotate_left
                 · simp only [Act.put, List.setIfInBounds_toArray, List.set_cons_zero, List.set_cons_succ, i64_w, i32_w]
                   rfl
                 refine pure_ (i := 5) (N := some 39) (v := ?_) (a' := ?_) #[true, false, true, false, false, true, false, false, false, false, false, false] rfl rfl (any_of HT_.out (by kernel_rfl)) (fun _ _ _ h => h) (Or.inl ⟨by rfl, ?_⟩) ?_ ?_
                 rotate_left
                 · intro w'
                   go_simp
                   with_reducible rfl
                 rotate_left
                 · simp only [Act.put, List.setIfInBounds_toArray, List.set_cons_zero, List.set_cons_succ, i64_w, i32_w]
                   rfl
                 refine pure_ (i := 7) (N := some 41) (v := ?_) (a' := ?_) #[true, false, true, false, false, true, false, true, false, false, false, false] rfl rfl (any_of HT_.out (by kernel_rfl)) (fun _ _ _ h => h) (Or.inl ⟨by rfl, ?_⟩) ?_ ?_
                 rotate_left
                 · intro w'
                   go_simp
                   with_reducible rfl
                 rotate_left
                 · simp only [Act.put, List.setIfInBounds_toArray, List.set_cons_zero, List.set_cons_succ, i64_w, i32_w]
                   rfl
                 refine take_ (i := 1) (N := some 35) (v := ?_) (a' := ?_) #[true, true, true, false, false, true, false, true, false, false, false, false] rfl rfl (take_ofW HT_.out HW_.out (by kernel_rfl)) (fun _ _ _ h => h) (Or.inl ⟨by rfl, ?_⟩) hHeld ?_ ?_
                 rotate_left
                 · rintro w' ⟨s0, s1, s2, s3, s4, s5, s6, s7, s8, s9, s10, s11⟩
                   go_simp
                   with_reducible rfl
                 rotate_left
                 · simp only [Act.put, List.setIfInBounds_toArray, List.set_cons_zero, List.set_cons_succ, i64_w, i32_w]
                   rfl
                 refine pure_ (i := 3) (N := some 37) (v := ?_) (a' := ?_) #[true, true, true, true, false, true, false, true, false, false, false, false] rfl rfl (any_of HT_.out (by kernel_rfl)) (fun _ _ _ h => h) (Or.inl ⟨by rfl, ?_⟩) ?_ ?_
                 rotate_left
                 · intro w'
                   go_simp
                   with_reducible rfl
                 rotate_left
                 · simp only [Act.put, List.setIfInBounds_toArray, List.set_cons_zero, List.set_cons_succ, i64_w, i32_w]
                   rfl
                 refine take_ (i := 4) (N := some 38) (v := ?_) (a' := ?_) #[true, true, true, true, true, true, false, true, false, false, false, false] rfl rfl (take_ofW HT_.out HW_.out (by kernel_rfl)) (fun _ _ _ h => h) (Or.inl ⟨by rfl, ?_⟩) hHeld ?_ ?_
                 rotate_left
                 · rintro w' ⟨s0, s1, s2, s3, s4, s5, s6, s7, s8, s9, s10, s11⟩
                   go_simp
                   with_reducible rfl
                 rotate_left
                 · simp only [Act.put, List.setIfInBounds_toArray, List.set_cons_zero, List.set_cons_succ, i64_w, i32_w]
                   rfl
                 refine take_ (i := 6) (N := some 40) (v := ?_) (a' := ?_) #[true, true, true, true, true, true, true, true, false, false, false, false] rfl rfl (take_ofW HT_.out HW_.out (by kernel_rfl)) (fun _ _ _ h => h) (Or.inl ⟨by rfl, ?_⟩) hHeld ?_ ?_
                 rotate_left
                 · rintro w' ⟨s0, s1, s2, s3, s4, s5, s6, s7, s8, s9, s10, s11⟩
                   go_simp
                   with_reducible rfl
                 rotate_left
                 · simp only [Act.put, List.setIfInBounds_toArray, List.set_cons_zero, List.set_cons_succ, i64_w, i32_w]
                   rfl
                 refine pure_ (i := 8) (N := some 42) (v := ?_) (a' := ?_) #[true, true, true, true, true, true, true, true, true, false, false, false] rfl rfl (any_of HT_.out (by kernel_rfl)) (fun _ _ _ h => h) (Or.inl ⟨by rfl, ?_⟩) ?_ ?_
                 rotate_left
                 · intro w'
                   go_simp
                   with_reducible rfl
                 rotate_left
                 · simp only [Act.put, List.setIfInBounds_toArray, List.set_cons_zero, List.set_cons_succ, i64_w, i32_w]
                   rfl
                 refine take_ (i := 9) (N := some 43) (v := ?_) (a' := ?_) #[true, true, true, true, true, true, true, true, true, true, false, false] rfl rfl (take_ofW HT_.out HW_.out (by kernel_rfl)) (fun _ _ _ h => h) (Or.inl ⟨by rfl, ?_⟩) hHeld ?_ ?_
                 rotate_left
                 · rintro w' ⟨s0, s1, s2, s3, s4, s5, s6, s7, s8, s9, s10, s11⟩
                   go_simp
                   with_reducible rfl
                 rotate_left
                 · simp only [Act.put, List.setIfInBounds_toArray, List.set_cons_zero, List.set_cons_succ, i64_w, i32_w]
                   rfl
                 refine one_ (i := 10) (N := some 44) #[true, true, true, true, true, true, true, true, true, true, true, false] rfl rfl (one_of HT_.out (by kernel_rfl)) (by decide) (fun K hK => ?_)
                 refine goes_ Try.func21 (by kernel_rfl) rfl #[.agg #[.int .i64 ((rd_T25 l0_2 x31_2).f0), .slice A383_1 ((rd_T25 l0_2 x31_2).f1).length c383_1, .slice A383_2 ((rd_T25 l0_2 x31_2).f2).length c383_2], .agg #[.int .i64 ((rd_T25 l1_2 x31_2).f0), .slice A384_1 ((rd_T25 l1_2 x31_2).f1).length c384_1, .slice A384_2 ((rd_T25 l1_2 x31_2).f2).length c384_2]] (by rfl) rfl rfl (by (try simp only [List.map_toArray, List.map_cons, List.map_nil]); first | done | rfl | (simp only [List.length_drop, List.length_take]; rfl)) ?_
                 with_reducible refine (ih k2 (by have := HJ2.out; have := HK2.out; omega) ((rd_T25 l0_2 x31_2).f0) _ _ ((rd_T25 l0_2 x31_2).f1) _ _ ((rd_T25 l0_2 x31_2).f2) ((rd_T25 l1_2 x31_2).f0) _ _ ((rd_T25 l1_2 x31_2).f1) _ _ ((rd_T25 l1_2 x31_2).f2) true _ ?side1 ?side2 ?side3 ?side4 ?side5 ?side6 ?side7 ?side8 A25.out).mono ?_
                 (case side1 => repeat (first | exact (Kd.C_below HR383_1.out HB.out) | (with_reducible refine Kd.C_alloc ?_ _) | (with_reducible refine Kd.C_drewN ?_ _) | (with_reducible refine Kd.C_drew ?_)))
                 (case side2 => exact HC383_1.out)
                 (case side3 => repeat (first | exact (Kd.C_below HR383_2.out HB.out) | (with_reducible refine Kd.C_alloc ?_ _) | (with_reducible refine Kd.C_drewN ?_ _) | (with_reducible refine Kd.C_drew ?_)))
                 (case side4 => exact HC383_2.out)
                 (case side5 => repeat (first | exact (Kd.C_below HR384_1.out HB.out) | (with_reducible refine Kd.C_alloc ?_ _) | (with_reducible refine Kd.C_drewN ?_ _) | (with_reducible refine Kd.C_drew ?_)))
                 (case side6 => exact HC384_1.out)
                 (case side7 => repeat (first | exact (Kd.C_below HR384_2.out HB.out) | (with_reducible refine Kd.C_alloc ?_ _) | (with_reducible refine Kd.C_drewN ?_ _) | (with_reducible refine Kd.C_drew ?_)))
                 (case side8 => exact HC384_2.out)
                 rintro e w28 ⟨rfl, hb⟩
                 refine ⟨_, rfl, ?_⟩
                 have n0_ := aM (blk_below (g := gb380) (o := .cells #[.int .i64 a0_0, .slice A0_1 l0_1.length c0_1, .slice (some ad383) l0_2.length c0_2] 25 (0, 0)) (by (with_reducible repeat (first | apply bkN | apply bkD | apply bkA)); exact BK380.out) hb)
                 have n1_ := aM (blk_below (g := gb381) (o := .cells #[.int .i64 a1_0, .slice A1_1 l1_1.length c1_1, .slice (some ad384) l1_2.length c1_2] 25 (0, 0)) (by (with_reducible repeat (first | apply bkN | apply bkD | apply bkA)); exact BK381.out) hb)
                 have n2_ := aM (below_step (by repeat (first | (with_reducible first | exact HB.out | apply blA | apply blN | apply blD | refine bS ?_ GE380.out | refine bS ?_ GE381.out) | exact HB.out)) hb)
                 clear BK380
                 clear BK381
                 clear HB
                 have BK380 := n0_
                 have BK381 := n1_
                 have HB := n2_
                 clear n0_ n1_ n2_
                 (try clear hb)
                 (try clear hb2)
                 (try clear hk)
                 (try clear hi)
                 refine hK.out _ _ ⟨(blk_cell BK380.out 0).trans rfl, (blk_cell BK380.out 1).trans rfl, (blk_cell BK380.out 2).trans rfl, (blk_cell BK381.out 0).trans rfl, (blk_cell BK381.out 1).trans rfl, (blk_cell BK381.out 2).trans rfl, ((HB.out.cell (World.block_lt_of_cell? w _ hw383_0)).trans hw383_0), ((HB.out.cell (World.block_lt_of_cell? w _ hw383_1)).trans hw383_1), ((HB.out.cell (World.block_lt_of_cell? w _ hw383_2)).trans hw383_2), ((HB.out.cell (World.block_lt_of_cell? w _ hw384_0)).trans hw384_0), ((HB.out.cell (World.block_lt_of_cell? w _ hw384_1)).trans hw384_1), ((HB.out.cell (World.block_lt_of_cell? w _ hw384_2)).trans hw384_2)⟩ (fun hHeld => ?_)
                 clear hK K
                 refine norm_ (a' := ?_) ?_ ?_
                 rotate_left
                 · show Act.put _ (some 44) _ = _
                   simp only [Act.put, List.setIfInBounds_toArray, List.set_cons_zero, List.set_cons_succ, i64_w, i32_w]
                   rfl
                 refine pure_ (i := 11) (N := some 45) (v := ?_) (a' := ?_) #[true, true, true, true, true, true, true, true, true, true, true, true] rfl rfl (any_of HT_.out (by kernel_rfl)) (fun _ _ _ h => h) (Or.inl ⟨by rfl, ?_⟩) ?_ ?_
                 rotate_left
                 · intro w'
                   go_simp
                   with_reducible rfl
                 rotate_left
                 · simp only [Act.put, List.setIfInBounds_toArray, List.set_cons_zero, List.set_cons_succ, i64_w, i32_w]
                   rfl
                 refine done_ (done_of HT_.out (by kernel_rfl)) ?_
                 try go_wp2
                 go_roundg k2
                 case measure => have := HJ2.out; have := HK2.out; omega
                 case rel => exact ⟨(wrap64 (x31_2 + 1)), (by first | rfl | (simp; done) | (simp [*]; done)), H', ⟨by have := HJ2.out; have := HK2.out; omega⟩, ⟨by (with_reducible repeat (first | apply bkN | apply bkD | apply bkA)); exact BK380.out⟩, ⟨by (with_reducible repeat (first | apply bkN | apply bkD | apply bkA)); exact BK381.out⟩, ⟨by repeat (first | (with_reducible first | exact HB.out | apply blA | apply blN | apply blD | refine bS ?_ GE380.out | refine bS ?_ GE381.out) | exact HB.out)⟩⟩
               · replace c26 := Bool.eq_false_iff.mpr c26
                 subst c26
                 have H1 : (some false) = some r := by rw [if_neg (show ¬ (false = true) by decide)] at H; exact H
                 clear H
                 have H := H1
                 clear H1
                 obtain rfl := Option.some.inj H
                 try go_wp2
                 have n0_ := aM (blk_drew BK380.out)
                 have n1_ := aM (blk_drew BK381.out)
                 have n2_ := aM (below_drew1 HB.out)
                 clear BK380
                 clear BK381
                 clear HB
                 have BK380 := n0_
                 have BK381 := n1_
                 have HB := n2_
                 clear n0_ n1_ n2_
                 have p383 : 0 ≤ (x31_2 : Int) := of_decide_eq_true (by first | (with_reducible assumption) | assumption)
                 have q383 : x31_2 < (l0_2.length : Int) := of_decide_eq_true (by first | (with_reducible assumption) | assumption)
                 obtain ⟨ad383, A383_1, c383_1, A383_2, c383_2, e383, hx383_0, hx383_1, hx383_2, hl383_1, hi383_1, hl383_2, hi383_2⟩ := at_T25 HR0_2.out x31_2 p383 q383
                 have hw383_2 := hx383_2
                 have hw383_1 := hx383_1
                 have hw383_0 := hx383_0
                 cases e383
                 replace hx383_0 := (HB.out.cell (World.block_lt_of_cell? w _ hx383_0)).trans hx383_0
                 replace hx383_1 := (HB.out.cell (World.block_lt_of_cell? w _ hx383_1)).trans hx383_1
                 replace hx383_2 := (HB.out.cell (World.block_lt_of_cell? w _ hx383_2)).trans hx383_2
                 have HR383_1 := aM hi383_1
                 have HC383_1 := aM hl383_1
                 clear hi383_1 hl383_1
                 have HR383_2 := aM hi383_2
                 have HC383_2 := aM hl383_2
                 clear hi383_2 hl383_2
                 replace p383 := eq_true p383
                 replace q383 := eq_true q383
                 have p384 : 0 ≤ (x31_2 : Int) := of_decide_eq_true (by first | (with_reducible assumption) | assumption)
                 have q384 : x31_2 < (l1_2.length : Int) := of_decide_eq_true (by first | (with_reducible assumption) | assumption)
                 obtain ⟨ad384, A384_1, c384_1, A384_2, c384_2, e384, hx384_0, hx384_1, hx384_2, hl384_1, hi384_1, hl384_2, hi384_2⟩ := at_T25 HR1_2.out x31_2 p384 q384
                 have hw384_2 := hx384_2
                 have hw384_1 := hx384_1
                 have hw384_0 := hx384_0
                 cases e384
                 replace hx384_0 := (HB.out.cell (World.block_lt_of_cell? w _ hx384_0)).trans hx384_0
                 replace hx384_1 := (HB.out.cell (World.block_lt_of_cell? w _ hx384_1)).trans hx384_1
                 replace hx384_2 := (HB.out.cell (World.block_lt_of_cell? w _ hx384_2)).trans hx384_2
                 have HR384_1 := aM hi384_1
                 have HC384_1 := aM hl384_1
                 clear hi384_1 hl384_1
                 have HR384_2 := aM hi384_2
                 have HC384_2 := aM hl384_2
                 clear hi384_2 hl384_2
                 replace p384 := eq_true p384
                 replace q384 := eq_true q384
                 refine start_ (n := 12) (S := fun w' => w'.cell? ⟨gb380, 0, none⟩ = some (.int .i64 a0_0) ∧ w'.cell? ⟨gb380, 1, none⟩ = some (.slice A0_1 l0_1.length c0_1) ∧ w'.cell? ⟨gb380, 2, none⟩ = some (.slice (some ad383) l0_2.length c0_2) ∧ w'.cell? ⟨gb381, 0, none⟩ = some (.int .i64 a1_0) ∧ w'.cell? ⟨gb381, 1, none⟩ = some (.slice A1_1 l1_1.length c1_1) ∧ w'.cell? ⟨gb381, 2, none⟩ = some (.slice (some ad384) l1_2.length c1_2) ∧ w'.cell? (ad383.add ((x31_2).toNat * 3)) = some (.int .i64 ((rd_T25 l0_2 x31_2).f0)) ∧ w'.cell? ⟨(ad383.add ((x31_2).toNat * 3)).block, (ad383.add ((x31_2).toNat * 3)).off + 1, none⟩ = some (.slice A383_1 ((rd_T25 l0_2 x31_2).f1).length c383_1) ∧ w'.cell? ⟨(ad383.add ((x31_2).toNat * 3)).block, (ad383.add ((x31_2).toNat * 3)).off + 2, none⟩ = some (.slice A383_2 ((rd_T25 l0_2 x31_2).f2).length c383_2) ∧ w'.cell? (ad384.add ((x31_2).toNat * 3)) = some (.int .i64 ((rd_T25 l1_2 x31_2).f0)) ∧ w'.cell? ⟨(ad384.add ((x31_2).toNat * 3)).block, (ad384.add ((x31_2).toNat * 3)).off + 1, none⟩ = some (.slice A384_1 ((rd_T25 l1_2 x31_2).f1).length c384_1) ∧ w'.cell? ⟨(ad384.add ((x31_2).toNat * 3)).block, (ad384.add ((x31_2).toNat * 3)).off + 2, none⟩ = some (.slice A384_2 ((rd_T25 l1_2 x31_2).f2).length c384_2)) (ds := []) #[false, false, false, false, false, false, false, false, false, false, false, false] (by kernel_rfl) rfl rfl ⟨(blk_cell BK380.out 0).trans rfl, (blk_cell BK380.out 1).trans rfl, (blk_cell BK380.out 2).trans rfl, (blk_cell BK381.out 0).trans rfl, (blk_cell BK381.out 1).trans rfl, (blk_cell BK381.out 2).trans rfl, ((HB.out.cell (World.block_lt_of_cell? w _ hw383_0)).trans hw383_0), ((HB.out.cell (World.block_lt_of_cell? w _ hw383_1)).trans hw383_1), ((HB.out.cell (World.block_lt_of_cell? w _ hw383_2)).trans hw383_2), ((HB.out.cell (World.block_lt_of_cell? w _ hw384_0)).trans hw384_0), ((HB.out.cell (World.block_lt_of_cell? w _ hw384_1)).trans hw384_1), ((HB.out.cell (World.block_lt_of_cell? w _ hw384_2)).trans hw384_2)⟩ (fun hHeld => ?_); refine with_tabW r5_Same.tab6 r5_Same.bits6 (fun HT_ HW_ => ?_)
                 generalize wr.drew = w29 at BK380 BK381 HB HR383_1 HR383_2 HR384_1 HR384_2 hx383_0 hx383_1 hx383_2 hx384_0 hx384_1 hx384_2 hHeld ⊢
                 refine pure_ (i := 0) (N := some 34) (v := ?_) (a' := ?_) #[true, false, false, false, false, false, false, false, false, false, false, false] rfl rfl (any_of HT_.out (by kernel_rfl)) (fun _ _ _ h => h) (Or.inl ⟨by rfl, ?_⟩) ?_ ?_
                 rotate_left
                 · intro w'
                   go_simp
                   with_reducible rfl
                 rotate_left
                 · simp only [Act.put, List.setIfInBounds_toArray, List.set_cons_zero, List.set_cons_succ, i64_w, i32_w]
                   rfl
                 refine pure_ (i := 2) (N := some 36) (v := ?_) (a' := ?_) #[true, false, true, false, false, false, false, false, false, false, false, false] rfl rfl (any_of HT_.out (by kernel_rfl)) (fun _ _ _ h => h) (Or.inl ⟨by rfl, ?_⟩) ?_ ?_
                 rotate_left
                 · intro w'
                   go_simp
                   with_reducible rfl
                 rotate_left
                 · simp only [Act.put, List.setIfInBounds_toArray, List.set_cons_zero, List.set_cons_succ, i64_w, i32_w]
                   rfl
                 refine pure_ (i := 5) (N := some 39) (v := ?_) (a' := ?_) #[true, false, true, false, false, true, false, false, false, false, false, false] rfl rfl (any_of HT_.out (by kernel_rfl)) (fun _ _ _ h => h) (Or.inl ⟨by rfl, ?_⟩) ?_ ?_
                 rotate_left
                 · intro w'
                   go_simp
                   with_reducible rfl
                 rotate_left
                 · simp only [Act.put, List.setIfInBounds_toArray, List.set_cons_zero, List.set_cons_succ, i64_w, i32_w]
                   rfl
                 refine pure_ (i := 7) (N := some 41) (v := ?_) (a' := ?_) #[true, false, true, false, false, true, false, true, false, false, false, false] rfl rfl (any_of HT_.out (by kernel_rfl)) (fun _ _ _ h => h) (Or.inl ⟨by rfl, ?_⟩) ?_ ?_
                 rotate_left
                 · intro w'
                   go_simp
                   with_reducible rfl
                 rotate_left
                 · simp only [Act.put, List.setIfInBounds_toArray, List.set_cons_zero, List.set_cons_succ, i64_w, i32_w]
                   rfl
                 refine take_ (i := 1) (N := some 35) (v := ?_) (a' := ?_) #[true, true, true, false, false, true, false, true, false, false, false, false] rfl rfl (take_ofW HT_.out HW_.out (by kernel_rfl)) (fun _ _ _ h => h) (Or.inl ⟨by rfl, ?_⟩) hHeld ?_ ?_
                 rotate_left
                 · rintro w' ⟨s0, s1, s2, s3, s4, s5, s6, s7, s8, s9, s10, s11⟩
                   go_simp
                   with_reducible rfl
                 rotate_left
                 · simp only [Act.put, List.setIfInBounds_toArray, List.set_cons_zero, List.set_cons_succ, i64_w, i32_w]
                   rfl
                 refine pure_ (i := 3) (N := some 37) (v := ?_) (a' := ?_) #[true, true, true, true, false, true, false, true, false, false, false, false] rfl rfl (any_of HT_.out (by kernel_rfl)) (fun _ _ _ h => h) (Or.inl ⟨by rfl, ?_⟩) ?_ ?_
                 rotate_left
                 · intro w'
                   go_simp
                   with_reducible rfl
                 rotate_left
                 · simp only [Act.put, List.setIfInBounds_toArray, List.set_cons_zero, List.set_cons_succ, i64_w, i32_w]
                   rfl
                 refine take_ (i := 4) (N := some 38) (v := ?_) (a' := ?_) #[true, true, true, true, true, true, false, true, false, false, false, false] rfl rfl (take_ofW HT_.out HW_.out (by kernel_rfl)) (fun _ _ _ h => h) (Or.inl ⟨by rfl, ?_⟩) hHeld ?_ ?_
                 rotate_left
                 · rintro w' ⟨s0, s1, s2, s3, s4, s5, s6, s7, s8, s9, s10, s11⟩
                   go_simp
                   with_reducible rfl
                 rotate_left
                 · simp only [Act.put, List.setIfInBounds_toArray, List.set_cons_zero, List.set_cons_succ, i64_w, i32_w]
                   rfl
                 refine take_ (i := 6) (N := some 40) (v := ?_) (a' := ?_) #[true, true, true, true, true, true, true, true, false, false, false, false] rfl rfl (take_ofW HT_.out HW_.out (by kernel_rfl)) (fun _ _ _ h => h) (Or.inl ⟨by rfl, ?_⟩) hHeld ?_ ?_
                 rotate_left
                 · rintro w' ⟨s0, s1, s2, s3, s4, s5, s6, s7, s8, s9, s10, s11⟩
                   go_simp
                   with_reducible rfl
                 rotate_left
                 · simp only [Act.put, List.setIfInBounds_toArray, List.set_cons_zero, List.set_cons_succ, i64_w, i32_w]
                   rfl
                 refine pure_ (i := 8) (N := some 42) (v := ?_) (a' := ?_) #[true, true, true, true, true, true, true, true, true, false, false, false] rfl rfl (any_of HT_.out (by kernel_rfl)) (fun _ _ _ h => h) (Or.inl ⟨by rfl, ?_⟩) ?_ ?_
                 rotate_left
                 · intro w'
                   go_simp
                   with_reducible rfl
                 rotate_left
                 · simp only [Act.put, List.setIfInBounds_toArray, List.set_cons_zero, List.set_cons_succ, i64_w, i32_w]
                   rfl
                 refine take_ (i := 9) (N := some 43) (v := ?_) (a' := ?_) #[true, true, true, true, true, true, true, true, true, true, false, false] rfl rfl (take_ofW HT_.out HW_.out (by kernel_rfl)) (fun _ _ _ h => h) (Or.inl ⟨by rfl, ?_⟩) hHeld ?_ ?_
                 rotate_left
                 · rintro w' ⟨s0, s1, s2, s3, s4, s5, s6, s7, s8, s9, s10, s11⟩
                   go_simp
                   with_reducible rfl
                 rotate_left
                 · simp only [Act.put, List.setIfInBounds_toArray, List.set_cons_zero, List.set_cons_succ, i64_w, i32_w]
                   rfl
                 refine one_ (i := 10) (N := some 44) #[true, true, true, true, true, true, true, true, true, true, true, false] rfl rfl (one_of HT_.out (by kernel_rfl)) (by decide) (fun K hK => ?_)
                 refine goes_ Try.func21 (by kernel_rfl) rfl #[.agg #[.int .i64 ((rd_T25 l0_2 x31_2).f0), .slice A383_1 ((rd_T25 l0_2 x31_2).f1).length c383_1, .slice A383_2 ((rd_T25 l0_2 x31_2).f2).length c383_2], .agg #[.int .i64 ((rd_T25 l1_2 x31_2).f0), .slice A384_1 ((rd_T25 l1_2 x31_2).f1).length c384_1, .slice A384_2 ((rd_T25 l1_2 x31_2).f2).length c384_2]] (by rfl) rfl rfl (by (try simp only [List.map_toArray, List.map_cons, List.map_nil]); first | done | rfl | (simp only [List.length_drop, List.length_take]; rfl)) ?_
                 with_reducible refine (ih k2 (by have := HJ2.out; have := HK2.out; omega) ((rd_T25 l0_2 x31_2).f0) _ _ ((rd_T25 l0_2 x31_2).f1) _ _ ((rd_T25 l0_2 x31_2).f2) ((rd_T25 l1_2 x31_2).f0) _ _ ((rd_T25 l1_2 x31_2).f1) _ _ ((rd_T25 l1_2 x31_2).f2) false _ ?side1 ?side2 ?side3 ?side4 ?side5 ?side6 ?side7 ?side8 A25.out).mono ?_
                 (case side1 => repeat (first | exact (Kd.C_below HR383_1.out HB.out) | (with_reducible refine Kd.C_alloc ?_ _) | (with_reducible refine Kd.C_drewN ?_ _) | (with_reducible refine Kd.C_drew ?_)))
                 (case side2 => exact HC383_1.out)
                 (case side3 => repeat (first | exact (Kd.C_below HR383_2.out HB.out) | (with_reducible refine Kd.C_alloc ?_ _) | (with_reducible refine Kd.C_drewN ?_ _) | (with_reducible refine Kd.C_drew ?_)))
                 (case side4 => exact HC383_2.out)
                 (case side5 => repeat (first | exact (Kd.C_below HR384_1.out HB.out) | (with_reducible refine Kd.C_alloc ?_ _) | (with_reducible refine Kd.C_drewN ?_ _) | (with_reducible refine Kd.C_drew ?_)))
                 (case side6 => exact HC384_1.out)
                 (case side7 => repeat (first | exact (Kd.C_below HR384_2.out HB.out) | (with_reducible refine Kd.C_alloc ?_ _) | (with_reducible refine Kd.C_drewN ?_ _) | (with_reducible refine Kd.C_drew ?_)))
                 (case side8 => exact HC384_2.out)
                 rintro e w30 ⟨rfl, hb⟩
                 refine ⟨_, rfl, ?_⟩
                 have n0_ := aM (blk_below (g := gb380) (o := .cells #[.int .i64 a0_0, .slice A0_1 l0_1.length c0_1, .slice (some ad383) l0_2.length c0_2] 25 (0, 0)) (by (with_reducible repeat (first | apply bkN | apply bkD | apply bkA)); exact BK380.out) hb)
                 have n1_ := aM (blk_below (g := gb381) (o := .cells #[.int .i64 a1_0, .slice A1_1 l1_1.length c1_1, .slice (some ad384) l1_2.length c1_2] 25 (0, 0)) (by (with_reducible repeat (first | apply bkN | apply bkD | apply bkA)); exact BK381.out) hb)
                 have n2_ := aM (below_step (by repeat (first | (with_reducible first | exact HB.out | apply blA | apply blN | apply blD | refine bS ?_ GE380.out | refine bS ?_ GE381.out) | exact HB.out)) hb)
                 clear BK380
                 clear BK381
                 clear HB
                 have BK380 := n0_
                 have BK381 := n1_
                 have HB := n2_
                 clear n0_ n1_ n2_
                 (try clear hb)
                 (try clear hb2)
                 (try clear hk)
                 (try clear hi)
                 refine hK.out _ _ ⟨(blk_cell BK380.out 0).trans rfl, (blk_cell BK380.out 1).trans rfl, (blk_cell BK380.out 2).trans rfl, (blk_cell BK381.out 0).trans rfl, (blk_cell BK381.out 1).trans rfl, (blk_cell BK381.out 2).trans rfl, ((HB.out.cell (World.block_lt_of_cell? w _ hw383_0)).trans hw383_0), ((HB.out.cell (World.block_lt_of_cell? w _ hw383_1)).trans hw383_1), ((HB.out.cell (World.block_lt_of_cell? w _ hw383_2)).trans hw383_2), ((HB.out.cell (World.block_lt_of_cell? w _ hw384_0)).trans hw384_0), ((HB.out.cell (World.block_lt_of_cell? w _ hw384_1)).trans hw384_1), ((HB.out.cell (World.block_lt_of_cell? w _ hw384_2)).trans hw384_2)⟩ (fun hHeld => ?_)
                 clear hK K
                 refine norm_ (a' := ?_) ?_ ?_
                 rotate_left
                 · show Act.put _ (some 44) _ = _
                   simp only [Act.put, List.setIfInBounds_toArray, List.set_cons_zero, List.set_cons_succ, i64_w, i32_w]
                   rfl
                 refine pure_ (i := 11) (N := some 45) (v := ?_) (a' := ?_) #[true, true, true, true, true, true, true, true, true, true, true, true] rfl rfl (any_of HT_.out (by kernel_rfl)) (fun _ _ _ h => h) (Or.inl ⟨by rfl, ?_⟩) ?_ ?_
                 rotate_left
                 · intro w'
                   go_simp
                   with_reducible rfl
                 rotate_left
                 · simp only [Act.put, List.setIfInBounds_toArray, List.set_cons_zero, List.set_cons_succ, i64_w, i32_w]
                   rfl
                 refine done_ (done_of HT_.out (by kernel_rfl)) ?_
                 try go_wp2
                 first | go_ret | refine ⟨_, results_tmp rfl _ _ _, ?_⟩
                 exact ⟨by first | rfl | (simp [errW_none, errW_some] <;> rfl) | (simp [*, errW_none, errW_some] <;> rfl), by repeat (first | (with_reducible first | exact HB.out | apply blA | apply blN | apply blD | refine bS ?_ GE380.out | refine bS ?_ GE381.out) | exact HB.out)⟩
             · rw [if_neg c24] at H
               exact absurd H (by simp)
           · rw [if_neg c23] at H
             exact absurd H (by simp)
         · rw [if_neg c22] at H
           exact absurd H (by simp)
       · rw [if_neg c21] at H
         have c21b0 : decide (x31_2 < (l0_2.length : Int)) = false := decide_eq_false c21
         clear c21
         obtain rfl := Option.some.inj H
         go_wp2
         first | go_ret | refine ⟨_, results_tmp rfl _ _ _, ?_⟩
         exact ⟨by first | rfl | (simp [errW_none, errW_some] <;> rfl) | (simp [*, errW_none, errW_some] <;> rfl), by repeat (first | (with_reducible first | exact HB.out | apply blA | apply blN | apply blD | refine bS ?_ GE380.out | refine bS ?_ GE381.out) | exact HB.out)⟩
end Go.Proofs.Ytlkjfjlmjgkheaa.G
