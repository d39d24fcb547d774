import Derived.Test.YtlkjfjlmjgkheaaGx0
import Derived.Test.YtlkjfjlmjgkheaaGx2
import Derived.Test.YtlkjfjlmjgkheaaGx3
import Derived.Test.YtlkjfjlmjgkheaaGx4
namespace Go.Proofs.Ytlkjfjlmjgkheaa.G
open Go.RowKit Go.Proofs.YtlkjfjlmjgkheaaW.PrintWords Go.Proofs.YtlkjfjlmjgkheaaW.PrintLast Go.Proofs.YtlkjfjlmjgkheaaW.PrintMore
attribute [local go_sem] max2_int min2_int max_two min_two max_three min_three max_four min_four
set_option linter.unusedVariables false
set_option linter.unusedSimpArgs false
attribute [local go_sem high] eqA71
mutual
def pat_ends.l0 : Nat → List Int → Int → Int → Int → List (S66) → List (S25) → Int → Int → Int → Int → Int → Int → Int → Int → Option (Int × Int × Int × Int)
 | 0, _, _, _, _, _, _, _, _, _, _, _, _, _, _ => none
 | k + 1, x19, x20, x21, x111000, x111001, x111002, x112000, x112001, x112002, x112003, x114000, x114001, x114002, x114003 => if x21 < x20 then (if 0 ≤ x21 then (if x21 < (x19.length : Int) then ((pat_places_has.f x112000 x112001 x112002 x112003 x21).bind fun t115 => (if t115 = true then ((span_In.f x111001 (rd x19 x21)).bind fun t116 => (if t116 = true then ((pat_places_put.f x114000 x114001 x114002 x114003 (wrap64 (x21 + 1))).bind fun bt117 => (pat_ends.l0 k x19 x20 (wrap64 (x21 + 1)) x111000 x111001 x111002 x112000 x112001 x112002 x112003 bt117.1 bt117.2.1 bt117.2.2.1 bt117.2.2.2)) else (pat_ends.l0 k x19 x20 (wrap64 (x21 + 1)) x111000 x111001 x111002 x112000 x112001 x112002 x112003 x114000 x114001 x114002 x114003))) else (pat_ends.l0 k x19 x20 (wrap64 (x21 + 1)) x111000 x111001 x111002 x112000 x112001 x112002 x112003 x114000 x114001 x114002 x114003))) else (none)) else (none)) else (some (x114000, x114001, x114002, x114003))
def pat_ends.l1 : Nat → List Int → List (S25) → Int → Int → Int → Int → Int → Int → Option (Int × Int × Int × Int)
 | 0, _, _, _, _, _, _, _, _ => none
 | k + 1, x1, x43, x44, x45, x114000, x114001, x114002, x114003 => if x45 < x44 then (if 0 ≤ x45 then (if x45 < (x43.length : Int) then ((pat_ends.f k ((rd_T25 x43 x45).f0) ((rd_T25 x43 x45).f1) ((rd_T25 x43 x45).f2) x1 x114000 x114001 x114002 x114003).bind fun bt123 => (pat_ends.l1 k x1 x43 x44 (wrap64 (x45 + 1)) bt123.1 bt123.2.1 bt123.2.2.1 bt123.2.2.2)) else (none)) else (none)) else (some (x114000, x114001, x114002, x114003))
def pat_ends.l2 : Nat → List Int → List (S25) → Int → Int → Int → Int → Int → Int → Int → Int → Int → Int → Option (Int × Int × Int × Int)
 | 0, _, _, _, _, _, _, _, _, _, _, _, _ => none
 | k + 1, x1, x57, x58, x59, x112000, x112001, x112002, x112003, x114000, x114001, x114002, x114003 => if x59 < x58 then (if 0 ≤ x59 then (if x59 < (x57.length : Int) then ((pat_ends.f k ((rd_T25 x57 x59).f0) ((rd_T25 x57 x59).f1) ((rd_T25 x57 x59).f2) x1 x112000 x112001 x112002 x112003).bind fun bt129 => ((pat_places_with.f x114000 x114001 x114002 x114003 bt129.1 bt129.2.1 bt129.2.2.1 bt129.2.2.2).bind fun bt133 => (pat_ends.l2 k x1 x57 x58 (wrap64 (x59 + 1)) x112000 x112001 x112002 x112003 bt133.1 bt133.2.1 bt133.2.2.1 bt133.2.2.2))) else (none)) else (none)) else (some (x114000, x114001, x114002, x114003))
def pat_ends.l3 : Nat → List Int → Int → List (S66) → List (S25) → Int → Int → Int → Int → Option (Int × Int × Int × Int)
 | 0, _, _, _, _, _, _, _, _ => none
 | k + 1, x1, x111000, x111001, x111002, x114000, x114001, x114002, x114003 => if 0 < (x111002.length : Int) then ((pat_ends.f k ((rd_T25 x111002 0).f0) ((rd_T25 x111002 0).f1) ((rd_T25 x111002 0).f2) x1 x114000 x114001 x114002 x114003).bind fun bt138 => ((pat_places_with.f x114000 x114001 x114002 x114003 bt138.1 bt138.2.1 bt138.2.2.1 bt138.2.2.2).bind fun bt142 => (if (bt142.1 == x114000 && (bt142.2.1 == x114001 && (bt142.2.2.1 == x114002 && (bt142.2.2.2 == x114003)))) = true then (some (x114000, x114001, x114002, x114003)) else (pat_ends.l3 k x1 x111000 x111001 x111002 bt142.1 bt142.2.1 bt142.2.2.1 bt142.2.2.2)))) else (none)
def pat_ends.f : Nat → Int → List (S66) → List (S25) → List Int → Int → Int → Int → Int → Option (Int × Int × Int × Int)
 | 0, _, _, _, _, _, _, _, _ => none
 | k + 1, a0_0, l0_1, l0_2, l1, a2_0, a2_1, a2_2, a2_3 => if a0_0 = 1 then (pat_ends.l0 k l1 (l1.length : Int) 0 a0_0 l0_1 l0_2 a2_0 a2_1 a2_2 a2_3 0 0 0 0) else (if a0_0 = 2 then (pat_ends.l1 k l1 l0_2 (l0_2.length : Int) 0 a2_0 a2_1 a2_2 a2_3) else (if a0_0 = 3 then (pat_ends.l2 k l1 l0_2 (l0_2.length : Int) 0 a2_0 a2_1 a2_2 a2_3 0 0 0 0) else (if a0_0 = 4 then (pat_ends.l3 k l1 a0_0 l0_1 l0_2 a2_0 a2_1 a2_2 a2_3) else (some (0, 0, 0, 0)))))
end
theorem pat_ends.mono_l : ∀ k, (∀ y0 y1 y2 y3 y4 y5 y6 y7, LeO (pat_ends.f k y0 y1 y2 y3 y4 y5 y6 y7) (pat_ends.f (k + 1) y0 y1 y2 y3 y4 y5 y6 y7)) ∧ (∀ y0 y1 y2 y3 y4 y5 y6 y7 y8 y9 y10 y11 y12 y13, LeO (pat_ends.l0 k y0 y1 y2 y3 y4 y5 y6 y7 y8 y9 y10 y11 y12 y13) (pat_ends.l0 (k + 1) y0 y1 y2 y3 y4 y5 y6 y7 y8 y9 y10 y11 y12 y13)) ∧ (∀ y0 y1 y2 y3 y4 y5 y6 y7, LeO (pat_ends.l1 k y0 y1 y2 y3 y4 y5 y6 y7) (pat_ends.l1 (k + 1) y0 y1 y2 y3 y4 y5 y6 y7)) ∧ (∀ y0 y1 y2 y3 y4 y5 y6 y7 y8 y9 y10 y11, LeO (pat_ends.l2 k y0 y1 y2 y3 y4 y5 y6 y7 y8 y9 y10 y11) (pat_ends.l2 (k + 1) y0 y1 y2 y3 y4 y5 y6 y7 y8 y9 y10 y11)) ∧ (∀ y0 y1 y2 y3 y4 y5 y6 y7, LeO (pat_ends.l3 k y0 y1 y2 y3 y4 y5 y6 y7) (pat_ends.l3 (k + 1) y0 y1 y2 y3 y4 y5 y6 y7))
 | 0 => ⟨fun _ _ _ _ _ _ _ _ r h => by simp [pat_ends.f] at h, fun _ _ _ _ _ _ _ _ _ _ _ _ _ _ r h => by simp [pat_ends.l0] at h, fun _ _ _ _ _ _ _ _ r h => by simp [pat_ends.l1] at h, fun _ _ _ _ _ _ _ _ _ _ _ _ r h => by simp [pat_ends.l2] at h, fun _ _ _ _ _ _ _ _ r h => by simp [pat_ends.l3] at h⟩
 | k + 1 => by
  obtain ⟨ih0, ih1, ih2, ih3, ih4⟩ := pat_ends.mono_l k
  refine ⟨?_, ?_, ?_, ?_, ?_⟩
  · intro y0 y1 y2 y3 y4 y5 y6 y7
    unfold pat_ends.f
    repeat' first
    | (with_reducible exact ih0 _ _ _ _ _ _ _ _)
    | (with_reducible exact ih1 _ _ _ _ _ _ _ _ _ _ _ _ _ _)
    | (with_reducible exact ih2 _ _ _ _ _ _ _ _)
    | (with_reducible exact ih3 _ _ _ _ _ _ _ _ _ _ _ _)
    | (with_reducible exact ih4 _ _ _ _ _ _ _ _)
    | (with_reducible exact LeO.refl _)
    | (with_reducible exact LeO.none _)
    | (with_reducible refine LeO.ite ?_ ?_)
    | (with_reducible refine LeO.bind ?_ (fun _ => ?_))
    | exact ih0 _ _ _ _ _ _ _ _
    | exact ih1 _ _ _ _ _ _ _ _ _ _ _ _ _ _
    | exact ih2 _ _ _ _ _ _ _ _
    | exact ih3 _ _ _ _ _ _ _ _ _ _ _ _
    | exact ih4 _ _ _ _ _ _ _ _
    | exact LeO.none _
    | refine LeO.ite ?_ ?_
    | refine LeO.bind ?_ (fun _ => ?_)
  · intro y0 y1 y2 y3 y4 y5 y6 y7 y8 y9 y10 y11 y12 y13
    unfold pat_ends.l0
    repeat' first
    | (with_reducible exact ih0 _ _ _ _ _ _ _ _)
    | (with_reducible exact ih1 _ _ _ _ _ _ _ _ _ _ _ _ _ _)
    | (with_reducible exact ih2 _ _ _ _ _ _ _ _)
    | (with_reducible exact ih3 _ _ _ _ _ _ _ _ _ _ _ _)
    | (with_reducible exact ih4 _ _ _ _ _ _ _ _)
    | (with_reducible exact LeO.refl _)
    | (with_reducible exact LeO.none _)
    | (with_reducible refine LeO.ite ?_ ?_)
    | (with_reducible refine LeO.bind ?_ (fun _ => ?_))
    | exact ih0 _ _ _ _ _ _ _ _
    | exact ih1 _ _ _ _ _ _ _ _ _ _ _ _ _ _
    | exact ih2 _ _ _ _ _ _ _ _
    | exact ih3 _ _ _ _ _ _ _ _ _ _ _ _
    | exact ih4 _ _ _ _ _ _ _ _
    | exact LeO.none _
    | refine LeO.ite ?_ ?_
    | refine LeO.bind ?_ (fun _ => ?_)
  · intro y0 y1 y2 y3 y4 y5 y6 y7
    unfold pat_ends.l1
    repeat' first
    | (with_reducible exact ih0 _ _ _ _ _ _ _ _)
    | (with_reducible exact ih1 _ _ _ _ _ _ _ _ _ _ _ _ _ _)
    | (with_reducible exact ih2 _ _ _ _ _ _ _ _)
    | (with_reducible exact ih3 _ _ _ _ _ _ _ _ _ _ _ _)
    | (with_reducible exact ih4 _ _ _ _ _ _ _ _)
    | (with_reducible exact LeO.refl _)
    | (with_reducible exact LeO.none _)
    | (with_reducible refine LeO.ite ?_ ?_)
    | (with_reducible refine LeO.bind ?_ (fun _ => ?_))
    | exact ih0 _ _ _ _ _ _ _ _
    | exact ih1 _ _ _ _ _ _ _ _ _ _ _ _ _ _
    | exact ih2 _ _ _ _ _ _ _ _
    | exact ih3 _ _ _ _ _ _ _ _ _ _ _ _
    | exact ih4 _ _ _ _ _ _ _ _
    | exact LeO.none _
    | refine LeO.ite ?_ ?_
    | refine LeO.bind ?_ (fun _ => ?_)
  · intro y0 y1 y2 y3 y4 y5 y6 y7 y8 y9 y10 y11
    unfold pat_ends.l2
    repeat' first
    | (with_reducible exact ih0 _ _ _ _ _ _ _ _)
    | (with_reducible exact ih1 _ _ _ _ _ _ _ _ _ _ _ _ _ _)
    | (with_reducible exact ih2 _ _ _ _ _ _ _ _)
    | (with_reducible exact ih3 _ _ _ _ _ _ _ _ _ _ _ _)
    | (with_reducible exact ih4 _ _ _ _ _ _ _ _)
    | (with_reducible exact LeO.refl _)
    | (with_reducible exact LeO.none _)
    | (with_reducible refine LeO.ite ?_ ?_)
    | (with_reducible refine LeO.bind ?_ (fun _ => ?_))
    | exact ih0 _ _ _ _ _ _ _ _
    | exact ih1 _ _ _ _ _ _ _ _ _ _ _ _ _ _
    | exact ih2 _ _ _ _ _ _ _ _
    | exact ih3 _ _ _ _ _ _ _ _ _ _ _ _
    | exact ih4 _ _ _ _ _ _ _ _
    | exact LeO.none _
    | refine LeO.ite ?_ ?_
    | refine LeO.bind ?_ (fun _ => ?_)
  · intro y0 y1 y2 y3 y4 y5 y6 y7
    unfold pat_ends.l3
    repeat' first
    | (with_reducible exact ih0 _ _ _ _ _ _ _ _)
    | (with_reducible exact ih1 _ _ _ _ _ _ _ _ _ _ _ _ _ _)
    | (with_reducible exact ih2 _ _ _ _ _ _ _ _)
    | (with_reducible exact ih3 _ _ _ _ _ _ _ _ _ _ _ _)
    | (with_reducible exact ih4 _ _ _ _ _ _ _ _)
    | (with_reducible exact LeO.refl _)
    | (with_reducible exact LeO.none _)
    | (with_reducible refine LeO.ite ?_ ?_)
    | (with_reducible refine LeO.bind ?_ (fun _ => ?_))
    | exact ih0 _ _ _ _ _ _ _ _
    | exact ih1 _ _ _ _ _ _ _ _ _ _ _ _ _ _
    | exact ih2 _ _ _ _ _ _ _ _
    | exact ih3 _ _ _ _ _ _ _ _ _ _ _ _
    | exact ih4 _ _ _ _ _ _ _ _
    | exact LeO.none _
    | refine LeO.ite ?_ ?_
    | refine LeO.bind ?_ (fun _ => ?_)
theorem pat_ends.mono : ∀ a0 a1 a2 a3 a4 a5 a6 a7 k, LeO (pat_ends.f k a0 a1 a2 a3 a4 a5 a6 a7) (pat_ends.f (k + 1) a0 a1 a2 a3 a4 a5 a6 a7) := by
 intro a0 a1 a2 a3 a4 a5 a6 a7 k
 obtain ⟨ih0, ih1, ih2, ih3, ih4⟩ := pat_ends.mono_l k
 exact ih0 a0 a1 a2 a3 a4 a5 a6 a7
def pat_ends.T25 : Bool × List (List Nat × List Nat) := (true, [([], []), ([], []), ([1], [1]), ([2], [2]), ([3], [3]), ([], []), ([], []), ([4, 5, 6], [4, 5, 6]), ([0, 7, 7], [0, 7]), ([], []), ([9, 8, 8, 0, 1, 2, 3, 4, 5, 6, 7, 8, 9], [8, 9])])
def pat_ends.B25 : List Nat := [0, 0, 2, 6, 14, 0, 0, 126, 255, 0, 1023]
theorem pat_ends.tab25 : rtab .any (opsOf Try.f46 25) = pat_ends.T25 := by kernel_rfl
theorem pat_ends.bits25 : waitsOk pat_ends.T25.2 pat_ends.B25 = true := by kernel_rfl
set_option maxHeartbeats 8000000 in
set_option maxRecDepth 100000 in
theorem pat_ends.calls (k : Nat) : ∀ (a0_0 : Int) (A0_1 : Option Addr) (c0_1 : Nat) (l0_1 : List (S66)) (A0_2 : Option Addr) (c0_2 : Nat) (l0_2 : List (S25)) (A1 : Option Addr) (c1 : Nat) (l1 : List Int) (a2_0 : Int) (a2_1 : Int) (a2_2 : Int) (a2_3 : Int) (r1 : Int) (r2 : Int) (r3 : Int) (r4 : Int) (w : World) (hr0_1 : Kd.C k66 w A0_1 l0_1.length l0_1) (hc0_1 : l0_1.length ≤ c0_1) (hr0_2 : Kd.C k25 w A0_2 l0_2.length l0_2) (hc0_2 : l0_2.length ≤ c0_2) (hr1 : Kd.C (Kd.int .u32) w A1 l1.length l1) (hc1 : l1.length ≤ c1) (h : pat_ends.f k a0_0 l0_1 l0_2 l1 a2_0 a2_1 a2_2 a2_3 = some (r1, r2, r3, r4)),
 Calls Try.prog 46 #[.agg #[.int .i64 a0_0, .slice A0_1 l0_1.length c0_1, .slice A0_2 l0_2.length c0_2], .slice A1 l1.length c1, .agg #[.int .u64 a2_0, .int .u64 a2_1, .int .u64 a2_2, .int .u64 a2_3]] w fun e w' => e = .returned (.agg #[.int .u64 r1, .int .u64 r2, .int .u64 r3, .int .u64 r4]) ∧ Below w.heap.size w w' := by
 induction k using Nat.strongRecOn with
 | _ k ih =>
 intro a0_0 A0_1 c0_1 l0_1 A0_2 c0_2 l0_2 A1 c1 l1 a2_0 a2_1 a2_2 a2_3 r1 r2 r3 r4 w hr0_1 hc0_1 hr0_2 hc0_2 hr1 hc1 h
 cases k with
 | zero => exact absurd h (by simp [pat_ends.f])
 | succ k =>
 simp only [pat_ends.f] at h
 have hu25 := Try.underlying25
 have hu71 := Try.underlying71
 have HR0_1 := aM hr0_1
 have HC0_1 := aM hc0_1
 clear hr0_1 hc0_1
 have HR0_2 := aM hr0_2
 have HC0_2 := aM hc0_2
 clear hr0_2 hc0_2
 have HR1 := aM hr1
 have HC1 := aM hc1
 clear hr1 hc1
 have HB := aM (Below.refl w.heap.size w)
 have H : (if a0_0 = 1 then (pat_ends.l0 k l1 (l1.length : Int) 0 a0_0 l0_1 l0_2 a2_0 a2_1 a2_2 a2_3 0 0 0 0) else (if a0_0 = 2 then (pat_ends.l1 k l1 l0_2 (l0_2.length : Int) 0 a2_0 a2_1 a2_2 a2_3) else (if a0_0 = 3 then (pat_ends.l2 k l1 l0_2 (l0_2.length : Int) 0 a2_0 a2_1 a2_2 a2_3 0 0 0 0) else (if a0_0 = 4 then (pat_ends.l3 k l1 a0_0 l0_1 l0_2 a2_0 a2_1 a2_2 a2_3) else (some (0, 0, 0, 0)))))) = some (r1, r2, r3, r4) := h
 clear h
 by_cases c4 : a0_0 = 1
 · rw [if_pos c4] at H
   have c4b0 : (a0_0 == 1) = true := beq_iff_eq.mpr c4
   have c4b1 : (a0_0 != 1) = false := bne_eq_false_iff_eq.mpr c4
   clear c4
   have H' := aM H
   clear H
   go_enter Try.func46, Try.ntmps46
   go_wp2_with (first | ((with_reducible refine gate_dst (N := 3) rfl ?_); refine box_event ?hg (N := 3) ?hd (cs := #[.int .i64 a0_0, .slice A0_1 l0_1.length c0_1, .slice A0_2 l0_2.length c0_2]) (t := 25) ?hr ?_; (case hd => rfl); (case hg => rfl); (case hr => first | (go_simp; done) | (go_simp; rfl)); intro gb110 hg w5 hbox hb; have n0_ := aM (below_step (by repeat (first | (with_reducible first | exact HB.out | apply blA | apply blN | apply blD) | exact HB.out)) hb); have n1_ := aM (hbox); have n2_ := aM ((by rw [hg]; exact (below_size (by repeat (first | (with_reducible first | exact HB.out | apply blA | apply blN | apply blD) | exact HB.out))) : w.heap.size ≤ gb110)); have n3_ := aM ((by rw [hg]; exact (below_size (by repeat (first | (with_reducible first | exact HB.out | apply blA | apply blN | apply blD) | exact HB.out))) : w.heap.size ≤ gb110)); clear HB; have HB := n0_; have BK110 := n1_; have GW110 := n2_; have GE110 := n3_; clear n0_ n1_ n2_ n3_; clear hb hbox hg) | ((with_reducible refine gate_dst (N := 5) rfl ?_); refine box_event ?hg (N := 5) ?hd (cs := #[.int .u64 a2_0, .int .u64 a2_1, .int .u64 a2_2, .int .u64 a2_3]) (t := 71) ?hr ?_; (case hd => rfl); (case hg => rfl); (case hr => first | (go_simp; done) | (go_simp; rfl)); intro gb111 hg w6 hbox hb; have n0_ := aM (blk_below (g := gb110) (o := .cells #[.int .i64 a0_0, .slice A0_1 l0_1.length c0_1, .slice A0_2 l0_2.length c0_2] 25 (0, 0)) (by (with_reducible repeat (first | apply bkN | apply bkD | apply bkA)); exact BK110.out) hb); have n1_ := aM (below_step (by repeat (first | (with_reducible first | exact HB.out | apply blA | apply blN | apply blD | refine bS ?_ GE110.out) | exact HB.out)) hb); have n2_ := aM (hbox); have n3_ := aM ((by rw [hg]; exact (below_size (by repeat (first | (with_reducible first | exact HB.out | apply blA | apply blN | apply blD | refine bS ?_ GE110.out) | exact HB.out))) : w.heap.size ≤ gb111)); have n4_ := aM ((by rw [hg]; exact (below_size (by repeat (first | (with_reducible first | exact HB.out | apply blA | apply blN | apply blD | refine bS ?_ GE110.out) | exact HB.out))) : w.heap.size ≤ gb111)); have n5_ := aM ((by rw [hg]; exact Nat.ne_of_lt (blk_lt (g := gb110) (o := .cells #[.int .i64 a0_0, .slice A0_1 l0_1.length c0_1, .slice A0_2 l0_2.length c0_2] 25 (0, 0)) (by (with_reducible repeat (first | apply bkN | apply bkD | apply bkA)); exact BK110.out)) : gb110 ≠ gb111)); have n6_ := aM ((by rw [hg]; exact Nat.ne_of_gt (blk_lt (g := gb110) (o := .cells #[.int .i64 a0_0, .slice A0_1 l0_1.length c0_1, .slice A0_2 l0_2.length c0_2] 25 (0, 0)) (by (with_reducible repeat (first | apply bkN | apply bkD | apply bkA)); exact BK110.out)) : gb111 ≠ gb110)); clear BK110; clear HB; have BK110 := n0_; have HB := n1_; have BK111 := n2_; have GW111 := n3_; have GE111 := n4_; have NB110_111 := n5_; have NB111_110 := n6_; clear n0_ n1_ n2_ n3_ n4_ n5_ n6_; clear hb hbox hg) | ((with_reducible refine gate_dst (N := 6) rfl ?_); refine box_event ?hg (N := 6) ?hd (cs := #[.int .u64 0, .int .u64 0, .int .u64 0, .int .u64 0]) (t := 71) ?hr ?_; (case hd => rfl); (case hg => rfl); (case hr => first | (go_simp; done) | (go_simp; rfl)); intro gb112 hg w7 hbox hb; have n0_ := aM (blk_below (g := gb110) (o := .cells #[.int .i64 a0_0, .slice A0_1 l0_1.length c0_1, .slice A0_2 l0_2.length c0_2] 25 (0, 0)) (by (with_reducible repeat (first | apply bkN | apply bkD | apply bkA)); exact BK110.out) hb); have n1_ := aM (blk_below (g := gb111) (o := .cells #[.int .u64 a2_0, .int .u64 a2_1, .int .u64 a2_2, .int .u64 a2_3] 71 (0, 0)) (by (with_reducible repeat (first | apply bkN | apply bkD | apply bkA)); exact BK111.out) hb); have n2_ := aM (below_step (by repeat (first | (with_reducible first | exact HB.out | apply blA | apply blN | apply blD | refine bS ?_ GE110.out | refine bS ?_ GE111.out) | exact HB.out)) hb); have n3_ := aM (hbox); have n4_ := aM ((by rw [hg]; exact (below_size (by repeat (first | (with_reducible first | exact HB.out | apply blA | apply blN | apply blD | refine bS ?_ GE110.out | refine bS ?_ GE111.out) | exact HB.out))) : w.heap.size ≤ gb112)); have n5_ := aM ((by rw [hg]; exact (below_size (by repeat (first | (with_reducible first | exact HB.out | apply blA | apply blN | apply blD | refine bS ?_ GE110.out | refine bS ?_ GE111.out) | exact HB.out))) : w.heap.size ≤ gb112)); have n6_ := aM ((by rw [hg]; exact Nat.ne_of_lt (blk_lt (g := gb110) (o := .cells #[.int .i64 a0_0, .slice A0_1 l0_1.length c0_1, .slice A0_2 l0_2.length c0_2] 25 (0, 0)) (by (with_reducible repeat (first | apply bkN | apply bkD | apply bkA)); exact BK110.out)) : gb110 ≠ gb112)); have n7_ := aM ((by rw [hg]; exact Nat.ne_of_gt (blk_lt (g := gb110) (o := .cells #[.int .i64 a0_0, .slice A0_1 l0_1.length c0_1, .slice A0_2 l0_2.length c0_2] 25 (0, 0)) (by (with_reducible repeat (first | apply bkN | apply bkD | apply bkA)); exact BK110.out)) : gb112 ≠ gb110)); have n8_ := aM ((by rw [hg]; exact Nat.ne_of_lt (blk_lt (g := gb111) (o := .cells #[.int .u64 a2_0, .int .u64 a2_1, .int .u64 a2_2, .int .u64 a2_3] 71 (0, 0)) (by (with_reducible repeat (first | apply bkN | apply bkD | apply bkA)); exact BK111.out)) : gb111 ≠ gb112)); have n9_ := aM ((by rw [hg]; exact Nat.ne_of_gt (blk_lt (g := gb111) (o := .cells #[.int .u64 a2_0, .int .u64 a2_1, .int .u64 a2_2, .int .u64 a2_3] 71 (0, 0)) (by (with_reducible repeat (first | apply bkN | apply bkD | apply bkA)); exact BK111.out)) : gb112 ≠ gb111)); clear BK110; clear BK111; clear HB; have BK110 := n0_; have BK111 := n1_; have HB := n2_; have BK112 := n3_; have GW112 := n4_; have GE112 := n5_; have NB110_112 := n6_; have NB112_110 := n7_; have NB111_112 := n8_; have NB112_111 := n9_; clear n0_ n1_ n2_ n3_ n4_ n5_ n6_ n7_ n8_ n9_; clear hb hbox hg) | ((with_reducible refine gate_dst (N := 7) rfl ?_); refine box_event ?hg (N := 7) ?hd (cs := #[.int .u64 0, .int .u64 0, .int .u64 0, .int .u64 0]) (t := 71) ?hr ?_; (case hd => rfl); (case hg => rfl); (case hr => first | (go_simp; done) | (go_simp; rfl)); intro gb113 hg w8 hbox hb; have n0_ := aM (blk_below (g := gb110) (o := .cells #[.int .i64 a0_0, .slice A0_1 l0_1.length c0_1, .slice A0_2 l0_2.length c0_2] 25 (0, 0)) (by (with_reducible repeat (first | apply bkN | apply bkD | apply bkA)); exact BK110.out) hb); have n1_ := aM (blk_below (g := gb111) (o := .cells #[.int .u64 a2_0, .int .u64 a2_1, .int .u64 a2_2, .int .u64 a2_3] 71 (0, 0)) (by (with_reducible repeat (first | apply bkN | apply bkD | apply bkA)); exact BK111.out) hb); have n2_ := aM (blk_below (g := gb112) (o := .cells #[.int .u64 0, .int .u64 0, .int .u64 0, .int .u64 0] 71 (0, 0)) (by (with_reducible repeat (first | apply bkN | apply bkD | apply bkA)); exact BK112.out) hb); have n3_ := aM (below_step (by repeat (first | (with_reducible first | exact HB.out | apply blA | apply blN | apply blD | refine bS ?_ GE110.out | refine bS ?_ GE111.out | refine bS ?_ GE112.out) | exact HB.out)) hb); have n4_ := aM (hbox); have n5_ := aM ((by rw [hg]; exact (below_size (by repeat (first | (with_reducible first | exact HB.out | apply blA | apply blN | apply blD | refine bS ?_ GE110.out | refine bS ?_ GE111.out | refine bS ?_ GE112.out) | exact HB.out))) : w.heap.size ≤ gb113)); have n6_ := aM ((by rw [hg]; exact (below_size (by repeat (first | (with_reducible first | exact HB.out | apply blA | apply blN | apply blD | refine bS ?_ GE110.out | refine bS ?_ GE111.out | refine bS ?_ GE112.out) | exact HB.out))) : w.heap.size ≤ gb113)); have n7_ := aM ((by rw [hg]; exact Nat.ne_of_lt (blk_lt (g := gb110) (o := .cells #[.int .i64 a0_0, .slice A0_1 l0_1.length c0_1, .slice A0_2 l0_2.length c0_2] 25 (0, 0)) (by (with_reducible repeat (first | apply bkN | apply bkD | apply bkA)); exact BK110.out)) : gb110 ≠ gb113)); have n8_ := aM ((by rw [hg]; exact Nat.ne_of_gt (blk_lt (g := gb110) (o := .cells #[.int .i64 a0_0, .slice A0_1 l0_1.length c0_1, .slice A0_2 l0_2.length c0_2] 25 (0, 0)) (by (with_reducible repeat (first | apply bkN | apply bkD | apply bkA)); exact BK110.out)) : gb113 ≠ gb110)); have n9_ := aM ((by rw [hg]; exact Nat.ne_of_lt (blk_lt (g := gb111) (o := .cells #[.int .u64 a2_0, .int .u64 a2_1, .int .u64 a2_2, .int .u64 a2_3] 71 (0, 0)) (by (with_reducible repeat (first | apply bkN | apply bkD | apply bkA)); exact BK111.out)) : gb111 ≠ gb113)); have n10_ := aM ((by rw [hg]; exact Nat.ne_of_gt (blk_lt (g := gb111) (o := .cells #[.int .u64 a2_0, .int .u64 a2_1, .int .u64 a2_2, .int .u64 a2_3] 71 (0, 0)) (by (with_reducible repeat (first | apply bkN | apply bkD | apply bkA)); exact BK111.out)) : gb113 ≠ gb111)); have n11_ := aM ((by rw [hg]; exact Nat.ne_of_lt (blk_lt (g := gb112) (o := .cells #[.int .u64 0, .int .u64 0, .int .u64 0, .int .u64 0] 71 (0, 0)) (by (with_reducible repeat (first | apply bkN | apply bkD | apply bkA)); exact BK112.out)) : gb112 ≠ gb113)); have n12_ := aM ((by rw [hg]; exact Nat.ne_of_gt (blk_lt (g := gb112) (o := .cells #[.int .u64 0, .int .u64 0, .int .u64 0, .int .u64 0] 71 (0, 0)) (by (with_reducible repeat (first | apply bkN | apply bkD | apply bkA)); exact BK112.out)) : gb113 ≠ gb112)); clear BK110; clear BK111; clear BK112; clear HB; have BK110 := n0_; have BK111 := n1_; have BK112 := n2_; have HB := n3_; have BK113 := n4_; have GW113 := n5_; have GE113 := n6_; have NB110_113 := n7_; have NB113_110 := n8_; have NB111_113 := n9_; have NB113_111 := n10_; have NB112_113 := n11_; have NB113_112 := n12_; clear n0_ n1_ n2_ n3_ n4_ n5_ n6_ n7_ n8_ n9_ n10_ n11_ n12_; clear hb hbox hg; have hnb9 := NB110_111.out; have hnc9 := NB111_110.out; have hnb10 := NB110_112.out; have hnc10 := NB112_110.out; have hnb11 := NB110_113.out; have hnc11 := NB113_110.out; have hcz12_0 : w8.cell? ⟨gb110, 0, none⟩ = some (.int .i64 a0_0) := (blk_cell BK110.out 0).trans rfl; have hcz12_1 : w8.cell? ⟨gb110, 1, none⟩ = some (.slice A0_1 l0_1.length c0_1) := (blk_cell BK110.out 1).trans rfl; have hcz12_2 : w8.cell? ⟨gb110, 2, none⟩ = some (.slice A0_2 l0_2.length c0_2) := (blk_cell BK110.out 2).trans rfl; have hfz12_0 := bF BK110.out 0; have hfz12_1 := bF BK110.out 1; have hfz12_2 := bF BK110.out 2))
   repeat (go_step3; try go_wp2_with (fail))
   go_loopg [21] k (fun kq v21 w' => ∃ (x21_1 : Int) (x114000_1 : Int) (x114001_1 : Int) (x114002_1 : Int) (x114003_1 : Int), v21 = .int .i64 x21_1 ∧ Aside0 (pat_ends.l0 kq l1 (l1.length : Int) x21_1 a0_0 l0_1 l0_2 a2_0 a2_1 a2_2 a2_3 x114000_1 x114001_1 x114002_1 x114003_1 = some (r1, r2, r3, r4)) ∧ Aside0 (kq ≤ k) ∧ Aside0 (w'.heap[gb110]? = some (.cells #[.int .i64 a0_0, (.slice A0_1 l0_1.length c0_1), (.slice A0_2 l0_2.length c0_2)] 25 (0, 0))) ∧ Aside0 (w'.heap[gb111]? = some (.cells #[.int .u64 a2_0, .int .u64 a2_1, .int .u64 a2_2, .int .u64 a2_3] 71 (0, 0))) ∧ Aside0 (w'.heap[gb112]? = some (.cells #[.int .u64 0, .int .u64 0, .int .u64 0, .int .u64 0] 71 (0, 0))) ∧ Aside0 (w'.heap[gb113]? = some (.cells #[.int .u64 x114000_1, .int .u64 x114001_1, .int .u64 x114002_1, .int .u64 x114003_1] 71 (0, 0))) ∧ Aside0 (Below w.heap.size w w'))
   case atStart => exact ⟨(0), (0), (0), (0), (0), (by first | rfl | (simp; done) | (simp [*]; done)), H', ⟨Nat.le_refl _⟩, ⟨by (with_reducible repeat (first | apply bkN | apply bkD | apply bkA)); exact BK110.out⟩, ⟨by (with_reducible repeat (first | apply bkN | apply bkD | apply bkA)); exact BK111.out⟩, ⟨by (with_reducible repeat (first | apply bkN | apply bkD | apply bkA)); exact BK112.out⟩, ⟨by (with_reducible repeat (first | apply bkN | apply bkD | apply bkA)); exact BK113.out⟩, ⟨by repeat (first | (with_reducible first | exact HB.out | apply blA | apply blN | apply blD | refine bS ?_ GE110.out | refine bS ?_ GE111.out | refine bS ?_ GE112.out | refine bS ?_ GE113.out) | exact HB.out)⟩⟩
   case round =>
    clear H'
    obtain ⟨x21_1, x114000_1, x114001_1, x114002_1, x114003_1, rfl, HA, HK1, BK110, BK111, BK112, BK113, HB⟩ := hrel
    cases gk with
    | zero => exact absurd HA.out (by simp [pat_ends.l0])
    | succ k1 =>
     have H := HA.out
     clear HA
     simp only [pat_ends.l0] at H
     by_cases c13 : x21_1 < (l1.length : Int)
     · rw [if_pos c13] at H
       have c13b0 : decide (x21_1 < (l1.length : Int)) = true := decide_eq_true c13
       clear c13
       by_cases c14 : 0 ≤ x21_1
       · rw [if_pos c14] at H
         have c14b0 : decide (0 ≤ x21_1) = true := decide_eq_true c14
         clear c14
         by_cases c15 : x21_1 < (l1.length : Int)
         · rw [if_pos c15] at H
           have c15b0 : decide (x21_1 < (l1.length : Int)) = true := decide_eq_true c15
           clear c15
           replace H := Option.bind_eq_some_iff.mp H
           obtain ⟨t115, A160, H⟩ := H
           replace H : (if t115 = true then ((span_In.f l0_1 (rd l1 x21_1)).bind fun t116 => (if t116 = true then ((pat_places_put.f x114000_1 x114001_1 x114002_1 x114003_1 (wrap64 (x21_1 + 1))).bind fun bt117 => (pat_ends.l0 k1 l1 (l1.length : Int) (wrap64 (x21_1 + 1)) a0_0 l0_1 l0_2 a2_0 a2_1 a2_2 a2_3 bt117.1 bt117.2.1 bt117.2.2.1 bt117.2.2.2)) else (pat_ends.l0 k1 l1 (l1.length : Int) (wrap64 (x21_1 + 1)) a0_0 l0_1 l0_2 a2_0 a2_1 a2_2 a2_3 x114000_1 x114001_1 x114002_1 x114003_1))) else (pat_ends.l0 k1 l1 (l1.length : Int) (wrap64 (x21_1 + 1)) a0_0 l0_1 l0_2 a2_0 a2_1 a2_2 a2_3 x114000_1 x114001_1 x114002_1 x114003_1)) = some (r1, r2, r3, r4) := H
           have A16 := aM A160
           clear A160
           by_cases c17 : t115 = true
           · subst c17
             have H1 : ((span_In.f l0_1 (rd l1 x21_1)).bind fun t116 => (if t116 = true then ((pat_places_put.f x114000_1 x114001_1 x114002_1 x114003_1 (wrap64 (x21_1 + 1))).bind fun bt117 => (pat_ends.l0 k1 l1 (l1.length : Int) (wrap64 (x21_1 + 1)) a0_0 l0_1 l0_2 a2_0 a2_1 a2_2 a2_3 bt117.1 bt117.2.1 bt117.2.2.1 bt117.2.2.2)) else (pat_ends.l0 k1 l1 (l1.length : Int) (wrap64 (x21_1 + 1)) a0_0 l0_1 l0_2 a2_0 a2_1 a2_2 a2_3 x114000_1 x114001_1 x114002_1 x114003_1))) = some (r1, r2, r3, r4) := by rw [if_pos rfl] at H; exact H
             clear H
             have H := H1
             clear H1
             replace H := Option.bind_eq_some_iff.mp H
             obtain ⟨t116, A180, H⟩ := H
             replace H : (if t116 = true then ((pat_places_put.f x114000_1 x114001_1 x114002_1 x114003_1 (wrap64 (x21_1 + 1))).bind fun bt117 => (pat_ends.l0 k1 l1 (l1.length : Int) (wrap64 (x21_1 + 1)) a0_0 l0_1 l0_2 a2_0 a2_1 a2_2 a2_3 bt117.1 bt117.2.1 bt117.2.2.1 bt117.2.2.2)) else (pat_ends.l0 k1 l1 (l1.length : Int) (wrap64 (x21_1 + 1)) a0_0 l0_1 l0_2 a2_0 a2_1 a2_2 a2_3 x114000_1 x114001_1 x114002_1 x114003_1)) = some (r1, r2, r3, r4) := H
             have A18 := aM A180
             clear A180
             by_cases c19 : t116 = true
             · subst c19
               have H1 : ((pat_places_put.f x114000_1 x114001_1 x114002_1 x114003_1 (wrap64 (x21_1 + 1))).bind fun bt117 => (pat_ends.l0 k1 l1 (l1.length : Int) (wrap64 (x21_1 + 1)) a0_0 l0_1 l0_2 a2_0 a2_1 a2_2 a2_3 bt117.1 bt117.2.1 bt117.2.2.1 bt117.2.2.2)) = some (r1, r2, r3, r4) := by rw [if_pos rfl] at H; exact H
               clear H
               have H := H1
               clear H1
               replace H := Option.bind_eq_some_iff.mp H
               obtain ⟨⟨t117, t118, t119, t120⟩, A200, H⟩ := H
               replace H : (pat_ends.l0 k1 l1 (l1.length : Int) (wrap64 (x21_1 + 1)) a0_0 l0_1 l0_2 a2_0 a2_1 a2_2 a2_3 t117 t118 t119 t120) = some (r1, r2, r3, r4) := H
               have A20 := aM A200
               clear A200
               have H' := aM H
               clear H
               have p114 : 0 ≤ (x21_1 : Int) := of_decide_eq_true (by first | (with_reducible assumption) | assumption)
               have q114 : x21_1 < (l1.length : Int) := of_decide_eq_true (by first | (with_reducible assumption) | assumption)
               obtain ⟨ad114, e114, hx114_0⟩ := Kd.at_int HR1.out x21_1 p114 q114
               cases e114
               replace hx114_0 := (HB.out.cell (World.block_lt_of_cell? w _ hx114_0)).trans hx114_0
               replace p114 := eq_true p114
               replace q114 := eq_true q114
               have hnb21 := NB111_110.out
               have hnc21 := NB110_111.out
               have hnb22 := NB111_112.out
               have hnc22 := NB112_111.out
               have hnb23 := NB111_113.out
               have hnc23 := NB113_111.out
               have hcz24_0 : wr.cell? ⟨gb111, 0, none⟩ = some (.int .u64 a2_0) := (blk_cell BK111.out 0).trans rfl
               have hcz24_1 : wr.cell? ⟨gb111, 1, none⟩ = some (.int .u64 a2_1) := (blk_cell BK111.out 1).trans rfl
               have hcz24_2 : wr.cell? ⟨gb111, 2, none⟩ = some (.int .u64 a2_2) := (blk_cell BK111.out 2).trans rfl
               have hcz24_3 : wr.cell? ⟨gb111, 3, none⟩ = some (.int .u64 a2_3) := (blk_cell BK111.out 3).trans rfl
               have hfz24_0 := bF BK111.out 0
               have hfz24_1 := bF BK111.out 1
               have hfz24_2 := bF BK111.out 2
               have hfz24_3 := bF BK111.out 3
               go_wp2_with (first | ((with_reducible refine gate_callee (f := 47) rfl ?_); refine goesL_ (some 28) rfl rfl Try.func47 (by kernel_rfl) rfl #[.agg #[.int .u64 a2_0, .int .u64 a2_1, .int .u64 a2_2, .int .u64 a2_3], .int .i64 x21_1] rfl (by (try simp only [List.map_toArray, List.map_cons, List.map_nil]); first | done | rfl | (simp only [List.length_drop, List.length_take]; rfl)) ?_; (with_reducible refine (pat_places_has.calls a2_0 a2_1 a2_2 a2_3 x21_1 true _ A16.out).mono ?_); rintro e w25 ⟨rfl, hb⟩; refine ⟨_, rfl, ?_⟩; have n0_ := aM (blk_below (g := gb110) (o := .cells #[.int .i64 a0_0, .slice A0_1 l0_1.length c0_1, .slice A0_2 l0_2.length c0_2] 25 (0, 0)) (by (with_reducible repeat (first | apply bkN | apply bkD | apply bkA)); exact BK110.out) hb); have n1_ := aM (blk_below (g := gb111) (o := .cells #[.int .u64 a2_0, .int .u64 a2_1, .int .u64 a2_2, .int .u64 a2_3] 71 (0, 0)) (by (with_reducible repeat (first | apply bkN | apply bkD | apply bkA)); exact BK111.out) hb); have n2_ := aM (blk_below (g := gb112) (o := .cells #[.int .u64 0, .int .u64 0, .int .u64 0, .int .u64 0] 71 (0, 0)) (by (with_reducible repeat (first | apply bkN | apply bkD | apply bkA)); exact BK112.out) hb); have n3_ := aM (blk_below (g := gb113) (o := .cells #[.int .u64 x114000_1, .int .u64 x114001_1, .int .u64 x114002_1, .int .u64 x114003_1] 71 (0, 0)) (by (with_reducible repeat (first | apply bkN | apply bkD | apply bkA)); exact BK113.out) hb); have n4_ := aM (below_step (by repeat (first | (with_reducible first | exact HB.out | apply blA | apply blN | apply blD | refine bS ?_ GE110.out | refine bS ?_ GE111.out | refine bS ?_ GE112.out | refine bS ?_ GE113.out) | exact HB.out)) hb); clear BK110; clear BK111; clear BK112; clear BK113; clear HB; have BK110 := n0_; have BK111 := n1_; have BK112 := n2_; have BK113 := n3_; have HB := n4_; clear n0_ n1_ n2_ n3_ n4_; clear hb; have hnb26 := NB110_112.out; have hnc26 := NB112_110.out; have hnb27 := NB110_113.out; have hnc27 := NB113_110.out; have hcz28_0 : w25.cell? ⟨gb110, 0, none⟩ = some (.int .i64 a0_0) := (blk_cell BK110.out 0).trans rfl; have hcz28_1 : w25.cell? ⟨gb110, 1, none⟩ = some (.slice A0_1 l0_1.length c0_1) := (blk_cell BK110.out 1).trans rfl; have hcz28_2 : w25.cell? ⟨gb110, 2, none⟩ = some (.slice A0_2 l0_2.length c0_2) := (blk_cell BK110.out 2).trans rfl; have hfz28_0 := bF BK110.out 0; have hfz28_1 := bF BK110.out 1; have hfz28_2 := bF BK110.out 2) | (go_at_call 81; (with_reducible refine (span_In.calls _ _ l0_1 (rd l1 x21_1) true _ ?side1 ?side2 A18.out).mono ?_); (case side1 => repeat (first | exact (Kd.C_below HR0_1.out HB.out) | (with_reducible refine Kd.C_alloc ?_ _) | (with_reducible refine Kd.C_drewN ?_ _) | (with_reducible refine Kd.C_drew ?_))); (case side2 => exact HC0_1.out); rintro e w29 ⟨rfl, hb⟩; have n0_ := aM (blk_below (g := gb110) (o := .cells #[.int .i64 a0_0, .slice A0_1 l0_1.length c0_1, .slice A0_2 l0_2.length c0_2] 25 (0, 0)) (by (with_reducible repeat (first | apply bkN | apply bkD | apply bkA)); exact BK110.out) hb); have n1_ := aM (blk_below (g := gb111) (o := .cells #[.int .u64 a2_0, .int .u64 a2_1, .int .u64 a2_2, .int .u64 a2_3] 71 (0, 0)) (by (with_reducible repeat (first | apply bkN | apply bkD | apply bkA)); exact BK111.out) hb); have n2_ := aM (blk_below (g := gb112) (o := .cells #[.int .u64 0, .int .u64 0, .int .u64 0, .int .u64 0] 71 (0, 0)) (by (with_reducible repeat (first | apply bkN | apply bkD | apply bkA)); exact BK112.out) hb); have n3_ := aM (blk_below (g := gb113) (o := .cells #[.int .u64 x114000_1, .int .u64 x114001_1, .int .u64 x114002_1, .int .u64 x114003_1] 71 (0, 0)) (by (with_reducible repeat (first | apply bkN | apply bkD | apply bkA)); exact BK113.out) hb); have n4_ := aM (below_step (by repeat (first | (with_reducible first | exact HB.out | apply blA | apply blN | apply blD | refine bS ?_ GE110.out | refine bS ?_ GE111.out | refine bS ?_ GE112.out | refine bS ?_ GE113.out) | exact HB.out)) hb); clear BK110; clear BK111; clear BK112; clear BK113; clear HB; have BK110 := n0_; have BK111 := n1_; have BK112 := n2_; have BK113 := n3_; have HB := n4_; clear n0_ n1_ n2_ n3_ n4_; (try clear hb); (try clear hb2); (try clear hk); (try clear hi)) | ((with_reducible refine gate_callee (f := 45) rfl ?_); refine goesL_ (some 37) rfl rfl Try.func45 (by kernel_rfl) rfl #[.pointer (some ⟨gb113, 0, none⟩), .int .i64 (wrap64 (x21_1 + 1))] rfl (by (try simp only [List.map_toArray, List.map_cons, List.map_nil]); first | done | rfl | (simp only [List.length_drop, List.length_take]; rfl)) ?_; (with_reducible refine (pat_places_put.calls gb113 x114000_1 x114001_1 x114002_1 x114003_1 (wrap64 (x21_1 + 1)) t117 t118 t119 t120 w _ ?side1 ?side2 A20.out).mono ?_); (case side1 => exact ⟨(by (with_reducible repeat (first | apply bkN | apply bkD | apply bkA)); exact BK113.out), GW113.out⟩); (case side2 => repeat (first | (with_reducible first | exact HB.out | apply blA | apply blN | apply blD | refine bS ?_ GE110.out | refine bS ?_ GE111.out | refine bS ?_ GE112.out | refine bS ?_ GE113.out) | exact HB.out)); rintro e w30 ⟨rfl, hi, hb, hk⟩; refine ⟨_, rfl, ?_⟩; have n0_ := aM (KeepBut.blk hk (g' := gb110) (o := .cells #[.int .i64 a0_0, .slice A0_1 l0_1.length c0_1, .slice A0_2 l0_2.length c0_2] 25 (0, 0)) (by (with_reducible repeat (first | apply bkN | apply bkD | apply bkA)); exact BK110.out) NB110_113.out (by simp)); have n1_ := aM (KeepBut.blk hk (g' := gb111) (o := .cells #[.int .u64 a2_0, .int .u64 a2_1, .int .u64 a2_2, .int .u64 a2_3] 71 (0, 0)) (by (with_reducible repeat (first | apply bkN | apply bkD | apply bkA)); exact BK111.out) NB111_113.out (by simp)); have n2_ := aM (KeepBut.blk hk (g' := gb112) (o := .cells #[.int .u64 0, .int .u64 0, .int .u64 0, .int .u64 0] 71 (0, 0)) (by (with_reducible repeat (first | apply bkN | apply bkD | apply bkA)); exact BK112.out) NB112_113.out (by simp)); have n3_ := aM (hi.1); have n4_ := aM (hb); clear BK110; clear BK111; clear BK112; clear BK113; clear HB; have BK110 := n0_; have BK111 := n1_; have BK112 := n2_; have BK113 := n3_; have HB := n4_; clear n0_ n1_ n2_ n3_ n4_; (try clear hb); (try clear hb2); (try clear hk); (try clear hi)))
               repeat (go_step3; try go_wp2_with (fail))
               go_roundg k1
               case measure => have := HK1.out; omega
               case rel => exact ⟨(wrap64 (x21_1 + 1)), (t117), (t118), (t119), (t120), (by first | rfl | (simp; done) | (simp [*]; done)), H', ⟨by have := HK1.out; omega⟩, ⟨by (with_reducible repeat (first | apply bkN | apply bkD | apply bkA)); exact BK110.out⟩, ⟨by (with_reducible repeat (first | apply bkN | apply bkD | apply bkA)); exact BK111.out⟩, ⟨by (with_reducible repeat (first | apply bkN | apply bkD | apply bkA)); exact BK112.out⟩, ⟨by (with_reducible repeat (first | apply bkN | apply bkD | apply bkA)); exact BK113.out⟩, ⟨by repeat (first | (with_reducible first | exact HB.out | apply blA | apply blN | apply blD | refine bS ?_ GE110.out | refine bS ?_ GE111.out | refine bS ?_ GE112.out | refine bS ?_ GE113.out) | exact HB.out)⟩⟩
             · replace c19 := Bool.eq_false_iff.mpr c19
               subst c19
               have H1 : (pat_ends.l0 k1 l1 (l1.length : Int) (wrap64 (x21_1 + 1)) a0_0 l0_1 l0_2 a2_0 a2_1 a2_2 a2_3 x114000_1 x114001_1 x114002_1 x114003_1) = some (r1, r2, r3, r4) := by rw [if_neg (show ¬ (false = true) by decide)] at H; exact H
               clear H
               have H := H1
               clear H1
               have H' := aM H
               clear H
               have p114 : 0 ≤ (x21_1 : Int) := of_decide_eq_true (by first | (with_reducible assumption) | assumption)
               have q114 : x21_1 < (l1.length : Int) := of_decide_eq_true (by first | (with_reducible assumption) | assumption)
               obtain ⟨ad114, e114, hx114_0⟩ := Kd.at_int HR1.out x21_1 p114 q114
               cases e114
               replace hx114_0 := (HB.out.cell (World.block_lt_of_cell? w _ hx114_0)).trans hx114_0
               replace p114 := eq_true p114
               replace q114 := eq_true q114
               have hnb31 := NB111_110.out
               have hnc31 := NB110_111.out
               have hnb32 := NB111_112.out
               have hnc32 := NB112_111.out
               have hnb33 := NB111_113.out
               have hnc33 := NB113_111.out
               have hcz34_0 : wr.cell? ⟨gb111, 0, none⟩ = some (.int .u64 a2_0) := (blk_cell BK111.out 0).trans rfl
               have hcz34_1 : wr.cell? ⟨gb111, 1, none⟩ = some (.int .u64 a2_1) := (blk_cell BK111.out 1).trans rfl
               have hcz34_2 : wr.cell? ⟨gb111, 2, none⟩ = some (.int .u64 a2_2) := (blk_cell BK111.out 2).trans rfl
               have hcz34_3 : wr.cell? ⟨gb111, 3, none⟩ = some (.int .u64 a2_3) := (blk_cell BK111.out 3).trans rfl
               have hfz34_0 := bF BK111.out 0
               have hfz34_1 := bF BK111.out 1
               have hfz34_2 := bF BK111.out 2
               have hfz34_3 := bF BK111.out 3
               go_wp2_with (first | ((with_reducible refine gate_callee (f := 47) rfl ?_); refine goesL_ (some 28) rfl rfl Try.func47 (by kernel_rfl) rfl #[.agg #[.int .u64 a2_0, .int .u64 a2_1, .int .u64 a2_2, .int .u64 a2_3], .int .i64 x21_1] rfl (by (try simp only [List.map_toArray, List.map_cons, List.map_nil]); first | done | rfl | (simp only [List.length_drop, List.length_take]; rfl)) ?_; (with_reducible refine (pat_places_has.calls a2_0 a2_1 a2_2 a2_3 x21_1 true _ A16.out).mono ?_); rintro e w35 ⟨rfl, hb⟩; refine ⟨_, rfl, ?_⟩; have n0_ := aM (blk_below (g := gb110) (o := .cells #[.int .i64 a0_0, .slice A0_1 l0_1.length c0_1, .slice A0_2 l0_2.length c0_2] 25 (0, 0)) (by (with_reducible repeat (first | apply bkN | apply bkD | apply bkA)); exact BK110.out) hb); have n1_ := aM (blk_below (g := gb111) (o := .cells #[.int .u64 a2_0, .int .u64 a2_1, .int .u64 a2_2, .int .u64 a2_3] 71 (0, 0)) (by (with_reducible repeat (first | apply bkN | apply bkD | apply bkA)); exact BK111.out) hb); have n2_ := aM (blk_below (g := gb112) (o := .cells #[.int .u64 0, .int .u64 0, .int .u64 0, .int .u64 0] 71 (0, 0)) (by (with_reducible repeat (first | apply bkN | apply bkD | apply bkA)); exact BK112.out) hb); have n3_ := aM (blk_below (g := gb113) (o := .cells #[.int .u64 x114000_1, .int .u64 x114001_1, .int .u64 x114002_1, .int .u64 x114003_1] 71 (0, 0)) (by (with_reducible repeat (first | apply bkN | apply bkD | apply bkA)); exact BK113.out) hb); have n4_ := aM (below_step (by repeat (first | (with_reducible first | exact HB.out | apply blA | apply blN | apply blD | refine bS ?_ GE110.out | refine bS ?_ GE111.out | refine bS ?_ GE112.out | refine bS ?_ GE113.out) | exact HB.out)) hb); clear BK110; clear BK111; clear BK112; clear BK113; clear HB; have BK110 := n0_; have BK111 := n1_; have BK112 := n2_; have BK113 := n3_; have HB := n4_; clear n0_ n1_ n2_ n3_ n4_; clear hb; have hnb36 := NB110_112.out; have hnc36 := NB112_110.out; have hnb37 := NB110_113.out; have hnc37 := NB113_110.out; have hcz38_0 : w35.cell? ⟨gb110, 0, none⟩ = some (.int .i64 a0_0) := (blk_cell BK110.out 0).trans rfl; have hcz38_1 : w35.cell? ⟨gb110, 1, none⟩ = some (.slice A0_1 l0_1.length c0_1) := (blk_cell BK110.out 1).trans rfl; have hcz38_2 : w35.cell? ⟨gb110, 2, none⟩ = some (.slice A0_2 l0_2.length c0_2) := (blk_cell BK110.out 2).trans rfl; have hfz38_0 := bF BK110.out 0; have hfz38_1 := bF BK110.out 1; have hfz38_2 := bF BK110.out 2) | (go_at_call 81; (with_reducible refine (span_In.calls _ _ l0_1 (rd l1 x21_1) false _ ?side1 ?side2 A18.out).mono ?_); (case side1 => repeat (first | exact (Kd.C_below HR0_1.out HB.out) | (with_reducible refine Kd.C_alloc ?_ _) | (with_reducible refine Kd.C_drewN ?_ _) | (with_reducible refine Kd.C_drew ?_))); (case side2 => exact HC0_1.out); rintro e w39 ⟨rfl, hb⟩; have n0_ := aM (blk_below (g := gb110) (o := .cells #[.int .i64 a0_0, .slice A0_1 l0_1.length c0_1, .slice A0_2 l0_2.length c0_2] 25 (0, 0)) (by (with_reducible repeat (first | apply bkN | apply bkD | apply bkA)); exact BK110.out) hb); have n1_ := aM (blk_below (g := gb111) (o := .cells #[.int .u64 a2_0, .int .u64 a2_1, .int .u64 a2_2, .int .u64 a2_3] 71 (0, 0)) (by (with_reducible repeat (first | apply bkN | apply bkD | apply bkA)); exact BK111.out) hb); have n2_ := aM (blk_below (g := gb112) (o := .cells #[.int .u64 0, .int .u64 0, .int .u64 0, .int .u64 0] 71 (0, 0)) (by (with_reducible repeat (first | apply bkN | apply bkD | apply bkA)); exact BK112.out) hb); have n3_ := aM (blk_below (g := gb113) (o := .cells #[.int .u64 x114000_1, .int .u64 x114001_1, .int .u64 x114002_1, .int .u64 x114003_1] 71 (0, 0)) (by (with_reducible repeat (first | apply bkN | apply bkD | apply bkA)); exact BK113.out) hb); have n4_ := aM (below_step (by repeat (first | (with_reducible first | exact HB.out | apply blA | apply blN | apply blD | refine bS ?_ GE110.out | refine bS ?_ GE111.out | refine bS ?_ GE112.out | refine bS ?_ GE113.out) | exact HB.out)) hb); clear BK110; clear BK111; clear BK112; clear BK113; clear HB; have BK110 := n0_; have BK111 := n1_; have BK112 := n2_; have BK113 := n3_; have HB := n4_; clear n0_ n1_ n2_ n3_ n4_; (try clear hb); (try clear hb2); (try clear hk); (try clear hi)))
               repeat (go_step3; try go_wp2_with (fail))
               go_roundg k1
               case measure => have := HK1.out; omega
               case rel => exact ⟨(wrap64 (x21_1 + 1)), (x114000_1), (x114001_1), (x114002_1), (x114003_1), (by first | rfl | (simp; done) | (simp [*]; done)), H', ⟨by have := HK1.out; omega⟩, ⟨by (with_reducible repeat (first | apply bkN | apply bkD | apply bkA)); exact BK110.out⟩, ⟨by (with_reducible repeat (first | apply bkN | apply bkD | apply bkA)); exact BK111.out⟩, ⟨by (with_reducible repeat (first | apply bkN | apply bkD | apply bkA)); exact BK112.out⟩, ⟨by (with_reducible repeat (first | apply bkN | apply bkD | apply bkA)); exact BK113.out⟩, ⟨by repeat (first | (with_reducible first | exact HB.out | apply blA | apply blN | apply blD | refine bS ?_ GE110.out | refine bS ?_ GE111.out | refine bS ?_ GE112.out | refine bS ?_ GE113.out) | exact HB.out)⟩⟩
           · replace c17 := Bool.eq_false_iff.mpr c17
             subst c17
             have H1 : (pat_ends.l0 k1 l1 (l1.length : Int) (wrap64 (x21_1 + 1)) a0_0 l0_1 l0_2 a2_0 a2_1 a2_2 a2_3 x114000_1 x114001_1 x114002_1 x114003_1) = some (r1, r2, r3, r4) := by rw [if_neg (show ¬ (false = true) by decide)] at H; exact H
             clear H
             have H := H1
             clear H1
             have H' := aM H
             clear H
             have p114 : 0 ≤ (x21_1 : Int) := of_decide_eq_true (by first | (with_reducible assumption) | assumption)
             have q114 : x21_1 < (l1.length : Int) := of_decide_eq_true (by first | (with_reducible assumption) | assumption)
             obtain ⟨ad114, e114, hx114_0⟩ := Kd.at_int HR1.out x21_1 p114 q114
             cases e114
             replace hx114_0 := (HB.out.cell (World.block_lt_of_cell? w _ hx114_0)).trans hx114_0
             replace p114 := eq_true p114
             replace q114 := eq_true q114
             have hnb40 := NB111_110.out
             have hnc40 := NB110_111.out
             have hnb41 := NB111_112.out
             have hnc41 := NB112_111.out
             have hnb42 := NB111_113.out
             have hnc42 := NB113_111.out
             have hcz43_0 : wr.cell? ⟨gb111, 0, none⟩ = some (.int .u64 a2_0) := (blk_cell BK111.out 0).trans rfl
             have hcz43_1 : wr.cell? ⟨gb111, 1, none⟩ = some (.int .u64 a2_1) := (blk_cell BK111.out 1).trans rfl
             have hcz43_2 : wr.cell? ⟨gb111, 2, none⟩ = some (.int .u64 a2_2) := (blk_cell BK111.out 2).trans rfl
             have hcz43_3 : wr.cell? ⟨gb111, 3, none⟩ = some (.int .u64 a2_3) := (blk_cell BK111.out 3).trans rfl
             have hfz43_0 := bF BK111.out 0
             have hfz43_1 := bF BK111.out 1
             have hfz43_2 := bF BK111.out 2
             have hfz43_3 := bF BK111.out 3
             go_wp2_with (first | ((with_reducible refine gate_callee (f := 47) rfl ?_); refine goesL_ (some 28) rfl rfl Try.func47 (by kernel_rfl) rfl #[.agg #[.int .u64 a2_0, .int .u64 a2_1, .int .u64 a2_2, .int .u64 a2_3], .int .i64 x21_1] rfl (by (try simp only [List.map_toArray, List.map_cons, List.map_nil]); first | done | rfl | (simp only [List.length_drop, List.length_take]; rfl)) ?_; (with_reducible refine (pat_places_has.calls a2_0 a2_1 a2_2 a2_3 x21_1 false _ A16.out).mono ?_); rintro e w44 ⟨rfl, hb⟩; refine ⟨_, rfl, ?_⟩; have n0_ := aM (blk_below (g := gb110) (o := .cells #[.int .i64 a0_0, .slice A0_1 l0_1.length c0_1, .slice A0_2 l0_2.length c0_2] 25 (0, 0)) (by (with_reducible repeat (first | apply bkN | apply bkD | apply bkA)); exact BK110.out) hb); have n1_ := aM (blk_below (g := gb111) (o := .cells #[.int .u64 a2_0, .int .u64 a2_1, .int .u64 a2_2, .int .u64 a2_3] 71 (0, 0)) (by (with_reducible repeat (first | apply bkN | apply bkD | apply bkA)); exact BK111.out) hb); have n2_ := aM (blk_below (g := gb112) (o := .cells #[.int .u64 0, .int .u64 0, .int .u64 0, .int .u64 0] 71 (0, 0)) (by (with_reducible repeat (first | apply bkN | apply bkD | apply bkA)); exact BK112.out) hb); have n3_ := aM (blk_below (g := gb113) (o := .cells #[.int .u64 x114000_1, .int .u64 x114001_1, .int .u64 x114002_1, .int .u64 x114003_1] 71 (0, 0)) (by (with_reducible repeat (first | apply bkN | apply bkD | apply bkA)); exact BK113.out) hb); have n4_ := aM (below_step (by repeat (first | (with_reducible first | exact HB.out | apply blA | apply blN | apply blD | refine bS ?_ GE110.out | refine bS ?_ GE111.out | refine bS ?_ GE112.out | refine bS ?_ GE113.out) | exact HB.out)) hb); clear BK110; clear BK111; clear BK112; clear BK113; clear HB; have BK110 := n0_; have BK111 := n1_; have BK112 := n2_; have BK113 := n3_; have HB := n4_; clear n0_ n1_ n2_ n3_ n4_; (try clear hb); (try clear hb2); (try clear hk); (try clear hi)))
             repeat (go_step3; try go_wp2_with (fail))
             go_roundg k1
             case measure => have := HK1.out; omega
             case rel => exact ⟨(wrap64 (x21_1 + 1)), (x114000_1), (x114001_1), (x114002_1), (x114003_1), (by first | rfl | (simp; done) | (simp [*]; done)), H', ⟨by have := HK1.out; omega⟩, ⟨by (with_reducible repeat (first | apply bkN | apply bkD | apply bkA)); exact BK110.out⟩, ⟨by (with_reducible repeat (first | apply bkN | apply bkD | apply bkA)); exact BK111.out⟩, ⟨by (with_reducible repeat (first | apply bkN | apply bkD | apply bkA)); exact BK112.out⟩, ⟨by (with_reducible repeat (first | apply bkN | apply bkD | apply bkA)); exact BK113.out⟩, ⟨by repeat (first | (with_reducible first | exact HB.out | apply blA | apply blN | apply blD | refine bS ?_ GE110.out | refine bS ?_ GE111.out | refine bS ?_ GE112.out | refine bS ?_ GE113.out) | exact HB.out)⟩⟩
         · rw [if_neg c15] at H
           exact absurd H (by simp)
       · rw [if_neg c14] at H
         exact absurd H (by simp)
     · rw [if_neg c13] at H
       have c13b0 : decide (x21_1 < (l1.length : Int)) = false := decide_eq_false c13
       clear c13
       simp only [Option.some.injEq, Prod.mk.injEq] at H
       obtain ⟨rfl, rfl, rfl, rfl⟩ := H
       have hnb45 := NB113_110.out
       have hnc45 := NB110_113.out
       have hnb46 := NB113_111.out
       have hnc46 := NB111_113.out
       have hnb47 := NB113_112.out
       have hnc47 := NB112_113.out
       have hcz48_0 : wr.cell? ⟨gb113, 0, none⟩ = some (.int .u64 x114000_1) := (blk_cell BK113.out 0).trans rfl
       have hcz48_1 : wr.cell? ⟨gb113, 1, none⟩ = some (.int .u64 x114001_1) := (blk_cell BK113.out 1).trans rfl
       have hcz48_2 : wr.cell? ⟨gb113, 2, none⟩ = some (.int .u64 x114002_1) := (blk_cell BK113.out 2).trans rfl
       have hcz48_3 : wr.cell? ⟨gb113, 3, none⟩ = some (.int .u64 x114003_1) := (blk_cell BK113.out 3).trans rfl
       have hfz48_0 := bF BK113.out 0
       have hfz48_1 := bF BK113.out 1
       have hfz48_2 := bF BK113.out 2
       have hfz48_3 := bF BK113.out 3
       have hnb49 := NB112_110.out
       have hnc49 := NB110_112.out
       have hnb50 := NB112_111.out
       have hnc50 := NB111_112.out
       have hcz51_0 : wr.cell? ⟨gb112, 0, none⟩ = some (.int .u64 0) := (blk_cell BK112.out 0).trans rfl
       have hcz51_1 : wr.cell? ⟨gb112, 1, none⟩ = some (.int .u64 0) := (blk_cell BK112.out 1).trans rfl
       have hcz51_2 : wr.cell? ⟨gb112, 2, none⟩ = some (.int .u64 0) := (blk_cell BK112.out 2).trans rfl
       have hcz51_3 : wr.cell? ⟨gb112, 3, none⟩ = some (.int .u64 0) := (blk_cell BK112.out 3).trans rfl
       have hfz51_0 := bF BK112.out 0
       have hfz51_1 := bF BK112.out 1
       have hfz51_2 := bF BK112.out 2
       have hfz51_3 := bF BK112.out 3
       go_wp2
       repeat (go_step3; try go_wp2_with (fail))
       refine bodyPost_ret (results_cell_row rfl _ _ gb112 71 #[.int .u64 x114000_1, .int .u64 x114001_1, .int .u64 x114002_1, .int .u64 x114003_1] (0, 0) _ rfl (by (with_reducible repeat (first | apply bkN | apply bkD | apply bkA)); refine blk_put (cs := #[.int .u64 x114000_1, .int .u64 x114001_1, .int .u64 x114002_1, .int .u64 0]) ?_ 3 _ rfl; (with_reducible repeat (first | apply bkN | apply bkD | apply bkA)); refine blk_put (cs := #[.int .u64 x114000_1, .int .u64 x114001_1, .int .u64 0, .int .u64 0]) ?_ 2 _ rfl; (with_reducible repeat (first | apply bkN | apply bkD | apply bkA)); refine blk_put (cs := #[.int .u64 x114000_1, .int .u64 0, .int .u64 0, .int .u64 0]) ?_ 1 _ rfl; (with_reducible repeat (first | apply bkN | apply bkD | apply bkA)); refine blk_put (cs := #[.int .u64 0, .int .u64 0, .int .u64 0, .int .u64 0]) ?_ 0 _ rfl; (with_reducible repeat (first | apply bkN | apply bkD | apply bkA)); exact BK112.out) Try.underlying71 rfl (by kernel_rfl)) rfl ?_
       exact ⟨by first | rfl | (simp [errW_none, errW_some] <;> rfl) | (simp [*, errW_none, errW_some] <;> rfl), by repeat (first | (with_reducible first | exact HB.out | apply blA | apply blN | apply blD | refine bS ?_ GE110.out | refine bS ?_ GE111.out | refine bS ?_ GE112.out | refine bS ?_ GE113.out) | exact HB.out)⟩
 · rw [if_neg c4] at H
   have c4b0 : (a0_0 == 1) = false := beq_eq_false_iff_ne.mpr c4
   have c4b1 : (a0_0 != 1) = true := bne_iff_ne.mpr c4
   by_cases c52 : a0_0 = 2
   · rw [if_pos c52] at H
     have c52b0 : (a0_0 == 2) = true := beq_iff_eq.mpr c52
     have c52b1 : (a0_0 != 2) = false := bne_eq_false_iff_eq.mpr c52
     clear c52
     have H' := aM H
     clear H
     go_enter Try.func46, Try.ntmps46
     go_wp2_with (first | ((with_reducible refine gate_dst (N := 3) rfl ?_); refine box_event ?hg (N := 3) ?hd (cs := #[.int .i64 a0_0, .slice A0_1 l0_1.length c0_1, .slice A0_2 l0_2.length c0_2]) (t := 25) ?hr ?_; (case hd => rfl); (case hg => rfl); (case hr => first | (go_simp; done) | (go_simp; rfl)); intro gb110 hg w53 hbox hb; have n0_ := aM (below_step (by repeat (first | (with_reducible first | exact HB.out | apply blA | apply blN | apply blD) | exact HB.out)) hb); have n1_ := aM (hbox); have n2_ := aM ((by rw [hg]; exact (below_size (by repeat (first | (with_reducible first | exact HB.out | apply blA | apply blN | apply blD) | exact HB.out))) : w.heap.size ≤ gb110)); have n3_ := aM ((by rw [hg]; exact (below_size (by repeat (first | (with_reducible first | exact HB.out | apply blA | apply blN | apply blD) | exact HB.out))) : w.heap.size ≤ gb110)); clear HB; have HB := n0_; have BK110 := n1_; have GW110 := n2_; have GE110 := n3_; clear n0_ n1_ n2_ n3_; clear hb hbox hg) | ((with_reducible refine gate_dst (N := 5) rfl ?_); refine box_event ?hg (N := 5) ?hd (cs := #[.int .u64 a2_0, .int .u64 a2_1, .int .u64 a2_2, .int .u64 a2_3]) (t := 71) ?hr ?_; (case hd => rfl); (case hg => rfl); (case hr => first | (go_simp; done) | (go_simp; rfl)); intro gb111 hg w54 hbox hb; have n0_ := aM (blk_below (g := gb110) (o := .cells #[.int .i64 a0_0, .slice A0_1 l0_1.length c0_1, .slice A0_2 l0_2.length c0_2] 25 (0, 0)) (by (with_reducible repeat (first | apply bkN | apply bkD | apply bkA)); exact BK110.out) hb); have n1_ := aM (below_step (by repeat (first | (with_reducible first | exact HB.out | apply blA | apply blN | apply blD | refine bS ?_ GE110.out) | exact HB.out)) hb); have n2_ := aM (hbox); have n3_ := aM ((by rw [hg]; exact (below_size (by repeat (first | (with_reducible first | exact HB.out | apply blA | apply blN | apply blD | refine bS ?_ GE110.out) | exact HB.out))) : w.heap.size ≤ gb111)); have n4_ := aM ((by rw [hg]; exact (below_size (by repeat (first | (with_reducible first | exact HB.out | apply blA | apply blN | apply blD | refine bS ?_ GE110.out) | exact HB.out))) : w.heap.size ≤ gb111)); have n5_ := aM ((by rw [hg]; exact Nat.ne_of_lt (blk_lt (g := gb110) (o := .cells #[.int .i64 a0_0, .slice A0_1 l0_1.length c0_1, .slice A0_2 l0_2.length c0_2] 25 (0, 0)) (by (with_reducible repeat (first | apply bkN | apply bkD | apply bkA)); exact BK110.out)) : gb110 ≠ gb111)); have n6_ := aM ((by rw [hg]; exact Nat.ne_of_gt (blk_lt (g := gb110) (o := .cells #[.int .i64 a0_0, .slice A0_1 l0_1.length c0_1, .slice A0_2 l0_2.length c0_2] 25 (0, 0)) (by (with_reducible repeat (first | apply bkN | apply bkD | apply bkA)); exact BK110.out)) : gb111 ≠ gb110)); clear BK110; clear HB; have BK110 := n0_; have HB := n1_; have BK111 := n2_; have GW111 := n3_; have GE111 := n4_; have NB110_111 := n5_; have NB111_110 := n6_; clear n0_ n1_ n2_ n3_ n4_ n5_ n6_; clear hb hbox hg) | ((with_reducible refine gate_dst (N := 6) rfl ?_); refine box_event ?hg (N := 6) ?hd (cs := #[.int .u64 0, .int .u64 0, .int .u64 0, .int .u64 0]) (t := 71) ?hr ?_; (case hd => rfl); (case hg => rfl); (case hr => first | (go_simp; done) | (go_simp; rfl)); intro gb112 hg w55 hbox hb; have n0_ := aM (blk_below (g := gb110) (o := .cells #[.int .i64 a0_0, .slice A0_1 l0_1.length c0_1, .slice A0_2 l0_2.length c0_2] 25 (0, 0)) (by (with_reducible repeat (first | apply bkN | apply bkD | apply bkA)); exact BK110.out) hb); have n1_ := aM (blk_below (g := gb111) (o := .cells #[.int .u64 a2_0, .int .u64 a2_1, .int .u64 a2_2, .int .u64 a2_3] 71 (0, 0)) (by (with_reducible repeat (first | apply bkN | apply bkD | apply bkA)); exact BK111.out) hb); have n2_ := aM (below_step (by repeat (first | (with_reducible first | exact HB.out | apply blA | apply blN | apply blD | refine bS ?_ GE110.out | refine bS ?_ GE111.out) | exact HB.out)) hb); have n3_ := aM (hbox); have n4_ := aM ((by rw [hg]; exact (below_size (by repeat (first | (with_reducible first | exact HB.out | apply blA | apply blN | apply blD | refine bS ?_ GE110.out | refine bS ?_ GE111.out) | exact HB.out))) : w.heap.size ≤ gb112)); have n5_ := aM ((by rw [hg]; exact (below_size (by repeat (first | (with_reducible first | exact HB.out | apply blA | apply blN | apply blD | refine bS ?_ GE110.out | refine bS ?_ GE111.out) | exact HB.out))) : w.heap.size ≤ gb112)); have n6_ := aM ((by rw [hg]; exact Nat.ne_of_lt (blk_lt (g := gb110) (o := .cells #[.int .i64 a0_0, .slice A0_1 l0_1.length c0_1, .slice A0_2 l0_2.length c0_2] 25 (0, 0)) (by (with_reducible repeat (first | apply bkN | apply bkD | apply bkA)); exact BK110.out)) : gb110 ≠ gb112)); have n7_ := aM ((by rw [hg]; exact Nat.ne_of_gt (blk_lt (g := gb110) (o := .cells #[.int .i64 a0_0, .slice A0_1 l0_1.length c0_1, .slice A0_2 l0_2.length c0_2] 25 (0, 0)) (by (with_reducible repeat (first | apply bkN | apply bkD | apply bkA)); exact BK110.out)) : gb112 ≠ gb110)); have n8_ := aM ((by rw [hg]; exact Nat.ne_of_lt (blk_lt (g := gb111) (o := .cells #[.int .u64 a2_0, .int .u64 a2_1, .int .u64 a2_2, .int .u64 a2_3] 71 (0, 0)) (by (with_reducible repeat (first | apply bkN | apply bkD | apply bkA)); exact BK111.out)) : gb111 ≠ gb112)); have n9_ := aM ((by rw [hg]; exact Nat.ne_of_gt (blk_lt (g := gb111) (o := .cells #[.int .u64 a2_0, .int .u64 a2_1, .int .u64 a2_2, .int .u64 a2_3] 71 (0, 0)) (by (with_reducible repeat (first | apply bkN | apply bkD | apply bkA)); exact BK111.out)) : gb112 ≠ gb111)); clear BK110; clear BK111; clear HB; have BK110 := n0_; have BK111 := n1_; have HB := n2_; have BK112 := n3_; have GW112 := n4_; have GE112 := n5_; have NB110_112 := n6_; have NB112_110 := n7_; have NB111_112 := n8_; have NB112_111 := n9_; clear n0_ n1_ n2_ n3_ n4_ n5_ n6_ n7_ n8_ n9_; clear hb hbox hg) | ((with_reducible refine gate_dst (N := 7) rfl ?_); refine box_event ?hg (N := 7) ?hd (cs := #[.int .u64 0, .int .u64 0, .int .u64 0, .int .u64 0]) (t := 71) ?hr ?_; (case hd => rfl); (case hg => rfl); (case hr => first | (go_simp; done) | (go_simp; rfl)); intro gb113 hg w56 hbox hb; have n0_ := aM (blk_below (g := gb110) (o := .cells #[.int .i64 a0_0, .slice A0_1 l0_1.length c0_1, .slice A0_2 l0_2.length c0_2] 25 (0, 0)) (by (with_reducible repeat (first | apply bkN | apply bkD | apply bkA)); exact BK110.out) hb); have n1_ := aM (blk_below (g := gb111) (o := .cells #[.int .u64 a2_0, .int .u64 a2_1, .int .u64 a2_2, .int .u64 a2_3] 71 (0, 0)) (by (with_reducible repeat (first | apply bkN | apply bkD | apply bkA)); exact BK111.out) hb); have n2_ := aM (blk_below (g := gb112) (o := .cells #[.int .u64 0, .int .u64 0, .int .u64 0, .int .u64 0] 71 (0, 0)) (by (with_reducible repeat (first | apply bkN | apply bkD | apply bkA)); exact BK112.out) hb); have n3_ := aM (below_step (by repeat (first | (with_reducible first | exact HB.out | apply blA | apply blN | apply blD | refine bS ?_ GE110.out | refine bS ?_ GE111.out | refine bS ?_ GE112.out) | exact HB.out)) hb); have n4_ := aM (hbox); have n5_ := aM ((by rw [hg]; exact (below_size (by repeat (first | (with_reducible first | exact HB.out | apply blA | apply blN | apply blD | refine bS ?_ GE110.out | refine bS ?_ GE111.out | refine bS ?_ GE112.out) | exact HB.out))) : w.heap.size ≤ gb113)); have n6_ := aM ((by rw [hg]; exact (below_size (by repeat (first | (with_reducible first | exact HB.out | apply blA | apply blN | apply blD | refine bS ?_ GE110.out | refine bS ?_ GE111.out | refine bS ?_ GE112.out) | exact HB.out))) : w.heap.size ≤ gb113)); have n7_ := aM ((by rw [hg]; exact Nat.ne_of_lt (blk_lt (g := gb110) (o := .cells #[.int .i64 a0_0, .slice A0_1 l0_1.length c0_1, .slice A0_2 l0_2.length c0_2] 25 (0, 0)) (by (with_reducible repeat (first | apply bkN | apply bkD | apply bkA)); exact BK110.out)) : gb110 ≠ gb113)); have n8_ := aM ((by rw [hg]; exact Nat.ne_of_gt (blk_lt (g := gb110) (o := .cells #[.int .i64 a0_0, .slice A0_1 l0_1.length c0_1, .slice A0_2 l0_2.length c0_2] 25 (0, 0)) (by (with_reducible repeat (first | apply bkN | apply bkD | apply bkA)); exact BK110.out)) : gb113 ≠ gb110)); have n9_ := aM ((by rw [hg]; exact Nat.ne_of_lt (blk_lt (g := gb111) (o := .cells #[.int .u64 a2_0, .int .u64 a2_1, .int .u64 a2_2, .int .u64 a2_3] 71 (0, 0)) (by (with_reducible repeat (first | apply bkN | apply bkD | apply bkA)); exact BK111.out)) : gb111 ≠ gb113)); have n10_ := aM ((by rw [hg]; exact Nat.ne_of_gt (blk_lt (g := gb111) (o := .cells #[.int .u64 a2_0, .int .u64 a2_1, .int .u64 a2_2, .int .u64 a2_3] 71 (0, 0)) (by (with_reducible repeat (first | apply bkN | apply bkD | apply bkA)); exact BK111.out)) : gb113 ≠ gb111)); have n11_ := aM ((by rw [hg]; exact Nat.ne_of_lt (blk_lt (g := gb112) (o := .cells #[.int .u64 0, .int .u64 0, .int .u64 0, .int .u64 0] 71 (0, 0)) (by (with_reducible repeat (first | apply bkN | apply bkD | apply bkA)); exact BK112.out)) : gb112 ≠ gb113)); have n12_ := aM ((by rw [hg]; exact Nat.ne_of_gt (blk_lt (g := gb112) (o := .cells #[.int .u64 0, .int .u64 0, .int .u64 0, .int .u64 0] 71 (0, 0)) (by (with_reducible repeat (first | apply bkN | apply bkD | apply bkA)); exact BK112.out)) : gb113 ≠ gb112)); clear BK110; clear BK111; clear BK112; clear HB; have BK110 := n0_; have BK111 := n1_; have BK112 := n2_; have HB := n3_; have BK113 := n4_; have GW113 := n5_; have GE113 := n6_; have NB110_113 := n7_; have NB113_110 := n8_; have NB111_113 := n9_; have NB113_111 := n10_; have NB112_113 := n11_; have NB113_112 := n12_; clear n0_ n1_ n2_ n3_ n4_ n5_ n6_ n7_ n8_ n9_ n10_ n11_ n12_; clear hb hbox hg; have hnb57 := NB110_111.out; have hnc57 := NB111_110.out; have hnb58 := NB110_112.out; have hnc58 := NB112_110.out; have hnb59 := NB110_113.out; have hnc59 := NB113_110.out; have hcz60_0 : w56.cell? ⟨gb110, 0, none⟩ = some (.int .i64 a0_0) := (blk_cell BK110.out 0).trans rfl; have hcz60_1 : w56.cell? ⟨gb110, 1, none⟩ = some (.slice A0_1 l0_1.length c0_1) := (blk_cell BK110.out 1).trans rfl; have hcz60_2 : w56.cell? ⟨gb110, 2, none⟩ = some (.slice A0_2 l0_2.length c0_2) := (blk_cell BK110.out 2).trans rfl; have hfz60_0 := bF BK110.out 0; have hfz60_1 := bF BK110.out 1; have hfz60_2 := bF BK110.out 2; have hnb61 := NB111_112.out; have hnc61 := NB112_111.out; have hnb62 := NB111_113.out; have hnc62 := NB113_111.out; have hcz63_0 : w56.cell? ⟨gb111, 0, none⟩ = some (.int .u64 a2_0) := (blk_cell BK111.out 0).trans rfl; have hcz63_1 : w56.cell? ⟨gb111, 1, none⟩ = some (.int .u64 a2_1) := (blk_cell BK111.out 1).trans rfl; have hcz63_2 : w56.cell? ⟨gb111, 2, none⟩ = some (.int .u64 a2_2) := (blk_cell BK111.out 2).trans rfl; have hcz63_3 : w56.cell? ⟨gb111, 3, none⟩ = some (.int .u64 a2_3) := (blk_cell BK111.out 3).trans rfl; have hfz63_0 := bF BK111.out 0; have hfz63_1 := bF BK111.out 1; have hfz63_2 := bF BK111.out 2; have hfz63_3 := bF BK111.out 3; have hnb64 := NB113_112.out; have hnc64 := NB112_113.out; have hcz65_0 : w56.cell? ⟨gb113, 0, none⟩ = some (.int .u64 0) := (blk_cell BK113.out 0).trans rfl; have hcz65_1 : w56.cell? ⟨gb113, 1, none⟩ = some (.int .u64 0) := (blk_cell BK113.out 1).trans rfl; have hcz65_2 : w56.cell? ⟨gb113, 2, none⟩ = some (.int .u64 0) := (blk_cell BK113.out 2).trans rfl; have hcz65_3 : w56.cell? ⟨gb113, 3, none⟩ = some (.int .u64 0) := (blk_cell BK113.out 3).trans rfl; have hfz65_0 := bF BK113.out 0; have hfz65_1 := bF BK113.out 1; have hfz65_2 := bF BK113.out 2; have hfz65_3 := bF BK113.out 3))
     repeat (go_step3; try go_wp2_with (fail))
     go_loopg [45] k (fun kq v45 w' => ∃ (x45_1 : Int) (x114000_1 : Int) (x114001_1 : Int) (x114002_1 : Int) (x114003_1 : Int), v45 = .int .i64 x45_1 ∧ Aside0 (pat_ends.l1 kq l1 l0_2 (l0_2.length : Int) x45_1 x114000_1 x114001_1 x114002_1 x114003_1 = some (r1, r2, r3, r4)) ∧ Aside0 (kq ≤ k) ∧ Aside0 (w'.heap[gb110]? = some (.cells #[.int .i64 a0_0, (.slice A0_1 l0_1.length c0_1), (.slice A0_2 l0_2.length c0_2)] 25 (0, 0))) ∧ Aside0 (w'.heap[gb111]? = some (.cells #[.int .u64 a2_0, .int .u64 a2_1, .int .u64 a2_2, .int .u64 a2_3] 71 (0, 0))) ∧ Aside0 (w'.heap[gb112]? = some (.cells #[.int .u64 0, .int .u64 0, .int .u64 0, .int .u64 0] 71 (0, 0))) ∧ Aside0 (w'.heap[gb113]? = some (.cells #[.int .u64 x114000_1, .int .u64 x114001_1, .int .u64 x114002_1, .int .u64 x114003_1] 71 (0, 0))) ∧ Aside0 (Below w.heap.size w w'))
     case atStart => exact ⟨(0), (a2_0), (a2_1), (a2_2), (a2_3), (by first | rfl | (simp; done) | (simp [*]; done)), H', ⟨Nat.le_refl _⟩, ⟨by (with_reducible repeat (first | apply bkN | apply bkD | apply bkA)); refine blk_far ?_ NB110_113.out _; (with_reducible repeat (first | apply bkN | apply bkD | apply bkA)); refine blk_far ?_ NB110_113.out _; (with_reducible repeat (first | apply bkN | apply bkD | apply bkA)); refine blk_far ?_ NB110_113.out _; (with_reducible repeat (first | apply bkN | apply bkD | apply bkA)); refine blk_far ?_ NB110_113.out _; (with_reducible repeat (first | apply bkN | apply bkD | apply bkA)); exact BK110.out⟩, ⟨by (with_reducible repeat (first | apply bkN | apply bkD | apply bkA)); refine blk_far ?_ NB111_113.out _; (with_reducible repeat (first | apply bkN | apply bkD | apply bkA)); refine blk_far ?_ NB111_113.out _; (with_reducible repeat (first | apply bkN | apply bkD | apply bkA)); refine blk_far ?_ NB111_113.out _; (with_reducible repeat (first | apply bkN | apply bkD | apply bkA)); refine blk_far ?_ NB111_113.out _; (with_reducible repeat (first | apply bkN | apply bkD | apply bkA)); exact BK111.out⟩, ⟨by (with_reducible repeat (first | apply bkN | apply bkD | apply bkA)); refine blk_far ?_ NB112_113.out _; (with_reducible repeat (first | apply bkN | apply bkD | apply bkA)); refine blk_far ?_ NB112_113.out _; (with_reducible repeat (first | apply bkN | apply bkD | apply bkA)); refine blk_far ?_ NB112_113.out _; (with_reducible repeat (first | apply bkN | apply bkD | apply bkA)); refine blk_far ?_ NB112_113.out _; (with_reducible repeat (first | apply bkN | apply bkD | apply bkA)); exact BK112.out⟩, ⟨by (with_reducible repeat (first | apply bkN | apply bkD | apply bkA)); refine blk_put (cs := #[.int .u64 a2_0, .int .u64 a2_1, .int .u64 a2_2, .int .u64 0]) ?_ 3 _ rfl; (with_reducible repeat (first | apply bkN | apply bkD | apply bkA)); refine blk_put (cs := #[.int .u64 a2_0, .int .u64 a2_1, .int .u64 0, .int .u64 0]) ?_ 2 _ rfl; (with_reducible repeat (first | apply bkN | apply bkD | apply bkA)); refine blk_put (cs := #[.int .u64 a2_0, .int .u64 0, .int .u64 0, .int .u64 0]) ?_ 1 _ rfl; (with_reducible repeat (first | apply bkN | apply bkD | apply bkA)); refine blk_put (cs := #[.int .u64 0, .int .u64 0, .int .u64 0, .int .u64 0]) ?_ 0 _ rfl; (with_reducible repeat (first | apply bkN | apply bkD | apply bkA)); exact BK113.out⟩, ⟨by repeat (first | (with_reducible first | exact HB.out | apply blA | apply blN | apply blD | refine bS ?_ GE110.out | refine bS ?_ GE111.out | refine bS ?_ GE112.out | refine bS ?_ GE113.out) | exact HB.out)⟩⟩
     case round =>
      clear H'
      obtain ⟨x45_1, x114000_1, x114001_1, x114002_1, x114003_1, rfl, HA, HK1, BK110, BK111, BK112, BK113, HB⟩ := hrel
      cases gk with
      | zero => exact absurd HA.out (by simp [pat_ends.l1])
      | succ k1 =>
       have H := HA.out
       clear HA
       simp only [pat_ends.l1] at H
       by_cases c66 : x45_1 < (l0_2.length : Int)
       · rw [if_pos c66] at H
         have c66b0 : decide (x45_1 < (l0_2.length : Int)) = true := decide_eq_true c66
         clear c66
         by_cases c67 : 0 ≤ x45_1
         · rw [if_pos c67] at H
           have c67b0 : decide (0 ≤ x45_1) = true := decide_eq_true c67
           clear c67
           by_cases c68 : x45_1 < (l0_2.length : Int)
           · rw [if_pos c68] at H
             have c68b0 : decide (x45_1 < (l0_2.length : Int)) = true := decide_eq_true c68
             clear c68
             replace H := Option.bind_eq_some_iff.mp H
             obtain ⟨⟨t123, t124, t125, t126⟩, A690, H⟩ := H
             replace H : (pat_ends.l1 k1 l1 l0_2 (l0_2.length : Int) (wrap64 (x45_1 + 1)) t123 t124 t125 t126) = some (r1, r2, r3, r4) := H
             have A69 := aM A690
             clear A690
             have H' := aM H
             clear H
             have p121 : 0 ≤ (x45_1 : Int) := of_decide_eq_true (by first | (with_reducible assumption) | assumption)
             have q121 : x45_1 < (l0_2.length : Int) := of_decide_eq_true (by first | (with_reducible assumption) | assumption)
             obtain ⟨ad121, A121_1, c121_1, A121_2, c121_2, e121, hx121_0, hx121_1, hx121_2, hl121_1, hi121_1, hl121_2, hi121_2⟩ := at_T25 HR0_2.out x45_1 p121 q121
             cases e121
             replace hx121_0 := (HB.out.cell (World.block_lt_of_cell? w _ hx121_0)).trans hx121_0
             replace hx121_1 := (HB.out.cell (World.block_lt_of_cell? w _ hx121_1)).trans hx121_1
             replace hx121_2 := (HB.out.cell (World.block_lt_of_cell? w _ hx121_2)).trans hx121_2
             have HR121_1 := aM hi121_1
             have HC121_1 := aM hl121_1
             clear hi121_1 hl121_1
             have HR121_2 := aM hi121_2
             have HC121_2 := aM hl121_2
             clear hi121_2 hl121_2
             replace p121 := eq_true p121
             replace q121 := eq_true q121
             go_wp2_with (first | ((with_reducible refine gate_dst (N := 11) rfl ?_); refine box_event ?hg (N := 11) ?hd (cs := #[.int .i64 0, .slice none 0 0, .slice none 0 0]) (t := 25) ?hr ?_; (case hd => rfl); (case hg => rfl); (case hr => first | (go_simp; done) | (go_simp; rfl)); intro gb122 hg w70 hbox hb; have n0_ := aM (blk_below (g := gb110) (o := .cells #[.int .i64 a0_0, .slice A0_1 l0_1.length c0_1, .slice (some ad121) l0_2.length c0_2] 25 (0, 0)) (by (with_reducible repeat (first | apply bkN | apply bkD | apply bkA)); exact BK110.out) hb); have n1_ := aM (blk_below (g := gb111) (o := .cells #[.int .u64 a2_0, .int .u64 a2_1, .int .u64 a2_2, .int .u64 a2_3] 71 (0, 0)) (by (with_reducible repeat (first | apply bkN | apply bkD | apply bkA)); exact BK111.out) hb); have n2_ := aM (blk_below (g := gb112) (o := .cells #[.int .u64 0, .int .u64 0, .int .u64 0, .int .u64 0] 71 (0, 0)) (by (with_reducible repeat (first | apply bkN | apply bkD | apply bkA)); exact BK112.out) hb); have n3_ := aM (blk_below (g := gb113) (o := .cells #[.int .u64 x114000_1, .int .u64 x114001_1, .int .u64 x114002_1, .int .u64 x114003_1] 71 (0, 0)) (by (with_reducible repeat (first | apply bkN | apply bkD | apply bkA)); exact BK113.out) hb); have n4_ := aM (below_step (by repeat (first | (with_reducible first | exact HB.out | apply blA | apply blN | apply blD | refine bS ?_ GE110.out | refine bS ?_ GE111.out | refine bS ?_ GE112.out | refine bS ?_ GE113.out) | exact HB.out)) hb); have n5_ := aM (hbox); have n6_ := aM ((by rw [hg]; exact (below_size (by repeat (first | (with_reducible first | exact HB.out | apply blA | apply blN | apply blD | refine bS ?_ GE110.out | refine bS ?_ GE111.out | refine bS ?_ GE112.out | refine bS ?_ GE113.out) | exact HB.out))) : w.heap.size ≤ gb122)); have n7_ := aM ((by rw [hg]; exact (below_size (by repeat (first | (with_reducible first | exact HB.out | apply blA | apply blN | apply blD | refine bS ?_ GE110.out | refine bS ?_ GE111.out | refine bS ?_ GE112.out | refine bS ?_ GE113.out) | exact HB.out))) : w.heap.size ≤ gb122)); have n8_ := aM ((by rw [hg]; exact Nat.ne_of_lt (blk_lt (g := gb110) (o := .cells #[.int .i64 a0_0, .slice A0_1 l0_1.length c0_1, .slice (some ad121) l0_2.length c0_2] 25 (0, 0)) (by (with_reducible repeat (first | apply bkN | apply bkD | apply bkA)); exact BK110.out)) : gb110 ≠ gb122)); have n9_ := aM ((by rw [hg]; exact Nat.ne_of_gt (blk_lt (g := gb110) (o := .cells #[.int .i64 a0_0, .slice A0_1 l0_1.length c0_1, .slice (some ad121) l0_2.length c0_2] 25 (0, 0)) (by (with_reducible repeat (first | apply bkN | apply bkD | apply bkA)); exact BK110.out)) : gb122 ≠ gb110)); have n10_ := aM ((by rw [hg]; exact Nat.ne_of_lt (blk_lt (g := gb111) (o := .cells #[.int .u64 a2_0, .int .u64 a2_1, .int .u64 a2_2, .int .u64 a2_3] 71 (0, 0)) (by (with_reducible repeat (first | apply bkN | apply bkD | apply bkA)); exact BK111.out)) : gb111 ≠ gb122)); have n11_ := aM ((by rw [hg]; exact Nat.ne_of_gt (blk_lt (g := gb111) (o := .cells #[.int .u64 a2_0, .int .u64 a2_1, .int .u64 a2_2, .int .u64 a2_3] 71 (0, 0)) (by (with_reducible repeat (first | apply bkN | apply bkD | apply bkA)); exact BK111.out)) : gb122 ≠ gb111)); have n12_ := aM ((by rw [hg]; exact Nat.ne_of_lt (blk_lt (g := gb112) (o := .cells #[.int .u64 0, .int .u64 0, .int .u64 0, .int .u64 0] 71 (0, 0)) (by (with_reducible repeat (first | apply bkN | apply bkD | apply bkA)); exact BK112.out)) : gb112 ≠ gb122)); have n13_ := aM ((by rw [hg]; exact Nat.ne_of_gt (blk_lt (g := gb112) (o := .cells #[.int .u64 0, .int .u64 0, .int .u64 0, .int .u64 0] 71 (0, 0)) (by (with_reducible repeat (first | apply bkN | apply bkD | apply bkA)); exact BK112.out)) : gb122 ≠ gb112)); have n14_ := aM ((by rw [hg]; exact Nat.ne_of_lt (blk_lt (g := gb113) (o := .cells #[.int .u64 x114000_1, .int .u64 x114001_1, .int .u64 x114002_1, .int .u64 x114003_1] 71 (0, 0)) (by (with_reducible repeat (first | apply bkN | apply bkD | apply bkA)); exact BK113.out)) : gb113 ≠ gb122)); have n15_ := aM ((by rw [hg]; exact Nat.ne_of_gt (blk_lt (g := gb113) (o := .cells #[.int .u64 x114000_1, .int .u64 x114001_1, .int .u64 x114002_1, .int .u64 x114003_1] 71 (0, 0)) (by (with_reducible repeat (first | apply bkN | apply bkD | apply bkA)); exact BK113.out)) : gb122 ≠ gb113)); clear BK110; clear BK111; clear BK112; clear BK113; clear HB; have BK110 := n0_; have BK111 := n1_; have BK112 := n2_; have BK113 := n3_; have HB := n4_; have BK122 := n5_; have GW122 := n6_; have GE122 := n7_; have NB110_122 := n8_; have NB122_110 := n9_; have NB111_122 := n10_; have NB122_111 := n11_; have NB112_122 := n12_; have NB122_112 := n13_; have NB113_122 := n14_; have NB122_113 := n15_; clear n0_ n1_ n2_ n3_ n4_ n5_ n6_ n7_ n8_ n9_ n10_ n11_ n12_ n13_ n14_ n15_; clear hb hbox hg; have hnb71 := NB122_110.out; have hnc71 := NB110_122.out; have hnb72 := NB122_111.out; have hnc72 := NB111_122.out; have hnb73 := NB122_112.out; have hnc73 := NB112_122.out; have hnb74 := NB122_113.out; have hnc74 := NB113_122.out; have hcz75_0 : w70.cell? ⟨gb122, 0, none⟩ = some (.int .i64 0) := (blk_cell BK122.out 0).trans rfl; have hcz75_1 : w70.cell? ⟨gb122, 1, none⟩ = some (.slice none 0 0) := (blk_cell BK122.out 1).trans rfl; have hcz75_2 : w70.cell? ⟨gb122, 2, none⟩ = some (.slice none 0 0) := (blk_cell BK122.out 2).trans rfl; have hfz75_0 := bF BK122.out 0; have hfz75_1 := bF BK122.out 1; have hfz75_2 := bF BK122.out 2; have hnb76 := NB113_110.out; have hnc76 := NB110_113.out; have hnb77 := NB113_111.out; have hnc77 := NB111_113.out; have hnb78 := NB113_112.out; have hnc78 := NB112_113.out; have hcz79_0 : w70.cell? ⟨gb113, 0, none⟩ = some (.int .u64 x114000_1) := (blk_cell BK113.out 0).trans rfl; have hcz79_1 : w70.cell? ⟨gb113, 1, none⟩ = some (.int .u64 x114001_1) := (blk_cell BK113.out 1).trans rfl; have hcz79_2 : w70.cell? ⟨gb113, 2, none⟩ = some (.int .u64 x114002_1) := (blk_cell BK113.out 2).trans rfl; have hcz79_3 : w70.cell? ⟨gb113, 3, none⟩ = some (.int .u64 x114003_1) := (blk_cell BK113.out 3).trans rfl; have hfz79_0 := bF BK113.out 0; have hfz79_1 := bF BK113.out 1; have hfz79_2 := bF BK113.out 2; have hfz79_3 := bF BK113.out 3) | ((with_reducible refine gate_callee (f := 46) rfl ?_); refine goesL_ (some 52) rfl rfl Try.func46 (by kernel_rfl) rfl #[.agg #[.int .i64 ((rd_T25 l0_2 x45_1).f0), .slice A121_1 ((rd_T25 l0_2 x45_1).f1).length c121_1, .slice A121_2 ((rd_T25 l0_2 x45_1).f2).length c121_2], .slice A1 l1.length c1, .agg #[.int .u64 x114000_1, .int .u64 x114001_1, .int .u64 x114002_1, .int .u64 x114003_1]] rfl (by (try simp only [List.map_toArray, List.map_cons, List.map_nil]); first | done | rfl | (simp only [List.length_drop, List.length_take]; rfl)) ?_; (with_reducible refine (ih k1 (by have := HK1.out; omega) ((rd_T25 l0_2 x45_1).f0) _ _ ((rd_T25 l0_2 x45_1).f1) _ _ ((rd_T25 l0_2 x45_1).f2) _ _ l1 x114000_1 x114001_1 x114002_1 x114003_1 t123 t124 t125 t126 _ ?side1 ?side2 ?side3 ?side4 ?side5 ?side6 A69.out).mono ?_); (case side1 => exact Kd.C_below HR121_1.out (by repeat (first | (with_reducible first | exact HB.out | apply blA | apply blN | apply blD | refine bS ?_ GE110.out | refine bS ?_ GE111.out | refine bS ?_ GE112.out | refine bS ?_ GE113.out | refine bS ?_ GE122.out) | exact HB.out))); (case side2 => exact HC121_1.out); (case side3 => exact Kd.C_below HR121_2.out (by repeat (first | (with_reducible first | exact HB.out | apply blA | apply blN | apply blD | refine bS ?_ GE110.out | refine bS ?_ GE111.out | refine bS ?_ GE112.out | refine bS ?_ GE113.out | refine bS ?_ GE122.out) | exact HB.out))); (case side4 => exact HC121_2.out); (case side5 => exact Kd.C_below HR1.out (by repeat (first | (with_reducible first | exact HB.out | apply blA | apply blN | apply blD | refine bS ?_ GE110.out | refine bS ?_ GE111.out | refine bS ?_ GE112.out | refine bS ?_ GE113.out | refine bS ?_ GE122.out) | exact HB.out))); (case side6 => exact HC1.out); rintro e w80 ⟨rfl, hb⟩; refine ⟨_, rfl, ?_⟩; have n0_ := aM (blk_below (g := gb110) (o := .cells #[.int .i64 a0_0, .slice A0_1 l0_1.length c0_1, .slice (some ad121) l0_2.length c0_2] 25 (0, 0)) (by (with_reducible repeat (first | apply bkN | apply bkD | apply bkA)); refine blk_far ?_ NB110_122.out _; (with_reducible repeat (first | apply bkN | apply bkD | apply bkA)); refine blk_far ?_ NB110_122.out _; (with_reducible repeat (first | apply bkN | apply bkD | apply bkA)); refine blk_far ?_ NB110_122.out _; (with_reducible repeat (first | apply bkN | apply bkD | apply bkA)); exact BK110.out) hb); have n1_ := aM (blk_below (g := gb111) (o := .cells #[.int .u64 a2_0, .int .u64 a2_1, .int .u64 a2_2, .int .u64 a2_3] 71 (0, 0)) (by (with_reducible repeat (first | apply bkN | apply bkD | apply bkA)); refine blk_far ?_ NB111_122.out _; (with_reducible repeat (first | apply bkN | apply bkD | apply bkA)); refine blk_far ?_ NB111_122.out _; (with_reducible repeat (first | apply bkN | apply bkD | apply bkA)); refine blk_far ?_ NB111_122.out _; (with_reducible repeat (first | apply bkN | apply bkD | apply bkA)); exact BK111.out) hb); have n2_ := aM (blk_below (g := gb112) (o := .cells #[.int .u64 0, .int .u64 0, .int .u64 0, .int .u64 0] 71 (0, 0)) (by (with_reducible repeat (first | apply bkN | apply bkD | apply bkA)); refine blk_far ?_ NB112_122.out _; (with_reducible repeat (first | apply bkN | apply bkD | apply bkA)); refine blk_far ?_ NB112_122.out _; (with_reducible repeat (first | apply bkN | apply bkD | apply bkA)); refine blk_far ?_ NB112_122.out _; (with_reducible repeat (first | apply bkN | apply bkD | apply bkA)); exact BK112.out) hb); have n3_ := aM (blk_below (g := gb113) (o := .cells #[.int .u64 x114000_1, .int .u64 x114001_1, .int .u64 x114002_1, .int .u64 x114003_1] 71 (0, 0)) (by (with_reducible repeat (first | apply bkN | apply bkD | apply bkA)); refine blk_far ?_ NB113_122.out _; (with_reducible repeat (first | apply bkN | apply bkD | apply bkA)); refine blk_far ?_ NB113_122.out _; (with_reducible repeat (first | apply bkN | apply bkD | apply bkA)); refine blk_far ?_ NB113_122.out _; (with_reducible repeat (first | apply bkN | apply bkD | apply bkA)); exact BK113.out) hb); have n4_ := aM (blk_below (g := gb122) (o := .cells #[.int .i64 ((rd_T25 l0_2 x45_1).f0), .slice A121_1 ((rd_T25 l0_2 x45_1).f1).length c121_1, .slice A121_2 ((rd_T25 l0_2 x45_1).f2).length c121_2] 25 (0, 0)) (by (with_reducible repeat (first | apply bkN | apply bkD | apply bkA)); refine blk_put (cs := #[.int .i64 ((rd_T25 l0_2 x45_1).f0), .slice A121_1 ((rd_T25 l0_2 x45_1).f1).length c121_1, .slice none 0 0]) ?_ 2 _ rfl; (with_reducible repeat (first | apply bkN | apply bkD | apply bkA)); refine blk_put (cs := #[.int .i64 ((rd_T25 l0_2 x45_1).f0), .slice none 0 0, .slice none 0 0]) ?_ 1 _ rfl; (with_reducible repeat (first | apply bkN | apply bkD | apply bkA)); refine blk_put (cs := #[.int .i64 0, .slice none 0 0, .slice none 0 0]) ?_ 0 _ rfl; (with_reducible repeat (first | apply bkN | apply bkD | apply bkA)); exact BK122.out) hb); have n5_ := aM (below_step (by repeat (first | (with_reducible first | exact HB.out | apply blA | apply blN | apply blD | refine bS ?_ GE110.out | refine bS ?_ GE111.out | refine bS ?_ GE112.out | refine bS ?_ GE113.out | refine bS ?_ GE122.out) | exact HB.out)) hb); clear BK110; clear BK111; clear BK112; clear BK113; clear BK122; clear HB; have BK110 := n0_; have BK111 := n1_; have BK112 := n2_; have BK113 := n3_; have BK122 := n4_; have HB := n5_; clear n0_ n1_ n2_ n3_ n4_ n5_; clear hb; have hcz81_0 : w80.cell? ⟨gb113, 0, none⟩ = some (.int .u64 x114000_1) := (blk_cell BK113.out 0).trans rfl; have hcz81_1 : w80.cell? ⟨gb113, 1, none⟩ = some (.int .u64 x114001_1) := (blk_cell BK113.out 1).trans rfl; have hcz81_2 : w80.cell? ⟨gb113, 2, none⟩ = some (.int .u64 x114002_1) := (blk_cell BK113.out 2).trans rfl; have hcz81_3 : w80.cell? ⟨gb113, 3, none⟩ = some (.int .u64 x114003_1) := (blk_cell BK113.out 3).trans rfl; have hfz81_0 := bF BK113.out 0; have hfz81_1 := bF BK113.out 1; have hfz81_2 := bF BK113.out 2; have hfz81_3 := bF BK113.out 3))
             repeat (go_step3; try go_wp2_with (fail))
             go_roundg k1
             case measure => have := HK1.out; omega
             case rel => exact ⟨(wrap64 (x45_1 + 1)), (t123), (t124), (t125), (t126), (by first | rfl | (simp; done) | (simp [*]; done)), H', ⟨by have := HK1.out; omega⟩, ⟨by (with_reducible repeat (first | apply bkN | apply bkD | apply bkA)); refine blk_far ?_ NB110_113.out _; (with_reducible repeat (first | apply bkN | apply bkD | apply bkA)); refine blk_far ?_ NB110_113.out _; (with_reducible repeat (first | apply bkN | apply bkD | apply bkA)); refine blk_far ?_ NB110_113.out _; (with_reducible repeat (first | apply bkN | apply bkD | apply bkA)); refine blk_far ?_ NB110_113.out _; (with_reducible repeat (first | apply bkN | apply bkD | apply bkA)); exact BK110.out⟩, ⟨by (with_reducible repeat (first | apply bkN | apply bkD | apply bkA)); refine blk_far ?_ NB111_113.out _; (with_reducible repeat (first | apply bkN | apply bkD | apply bkA)); refine blk_far ?_ NB111_113.out _; (with_reducible repeat (first | apply bkN | apply bkD | apply bkA)); refine blk_far ?_ NB111_113.out _; (with_reducible repeat (first | apply bkN | apply bkD | apply bkA)); refine blk_far ?_ NB111_113.out _; (with_reducible repeat (first | apply bkN | apply bkD | apply bkA)); exact BK111.out⟩, ⟨by (with_reducible repeat (first | apply bkN | apply bkD | apply bkA)); refine blk_far ?_ NB112_113.out _; (with_reducible repeat (first | apply bkN | apply bkD | apply bkA)); refine blk_far ?_ NB112_113.out _; (with_reducible repeat (first | apply bkN | apply bkD | apply bkA)); refine blk_far ?_ NB112_113.out _; (with_reducible repeat (first | apply bkN | apply bkD | apply bkA)); refine blk_far ?_ NB112_113.out _; (with_reducible repeat (first | apply bkN | apply bkD | apply bkA)); exact BK112.out⟩, ⟨by (with_reducible repeat (first | apply bkN | apply bkD | apply bkA)); refine blk_put (cs := #[.int .u64 t123, .int .u64 t124, .int .u64 t125, .int .u64 x114003_1]) ?_ 3 _ rfl; (with_reducible repeat (first | apply bkN | apply bkD | apply bkA)); refine blk_put (cs := #[.int .u64 t123, .int .u64 t124, .int .u64 x114002_1, .int .u64 x114003_1]) ?_ 2 _ rfl; (with_reducible repeat (first | apply bkN | apply bkD | apply bkA)); refine blk_put (cs := #[.int .u64 t123, .int .u64 x114001_1, .int .u64 x114002_1, .int .u64 x114003_1]) ?_ 1 _ rfl; (with_reducible repeat (first | apply bkN | apply bkD | apply bkA)); refine blk_put (cs := #[.int .u64 x114000_1, .int .u64 x114001_1, .int .u64 x114002_1, .int .u64 x114003_1]) ?_ 0 _ rfl; (with_reducible repeat (first | apply bkN | apply bkD | apply bkA)); exact BK113.out⟩, ⟨by repeat (first | (with_reducible first | exact HB.out | apply blA | apply blN | apply blD | refine bS ?_ GE110.out | refine bS ?_ GE111.out | refine bS ?_ GE112.out | refine bS ?_ GE113.out | refine bS ?_ GE122.out) | exact HB.out)⟩⟩
           · rw [if_neg c68] at H
             exact absurd H (by simp)
         · rw [if_neg c67] at H
           exact absurd H (by simp)
       · rw [if_neg c66] at H
         have c66b0 : decide (x45_1 < (l0_2.length : Int)) = false := decide_eq_false c66
         clear c66
         simp only [Option.some.injEq, Prod.mk.injEq] at H
         obtain ⟨rfl, rfl, rfl, rfl⟩ := H
         have hnb82 := NB113_110.out
         have hnc82 := NB110_113.out
         have hnb83 := NB113_111.out
         have hnc83 := NB111_113.out
         have hnb84 := NB113_112.out
         have hnc84 := NB112_113.out
         have hcz85_0 : wr.cell? ⟨gb113, 0, none⟩ = some (.int .u64 x114000_1) := (blk_cell BK113.out 0).trans rfl
         have hcz85_1 : wr.cell? ⟨gb113, 1, none⟩ = some (.int .u64 x114001_1) := (blk_cell BK113.out 1).trans rfl
         have hcz85_2 : wr.cell? ⟨gb113, 2, none⟩ = some (.int .u64 x114002_1) := (blk_cell BK113.out 2).trans rfl
         have hcz85_3 : wr.cell? ⟨gb113, 3, none⟩ = some (.int .u64 x114003_1) := (blk_cell BK113.out 3).trans rfl
         have hfz85_0 := bF BK113.out 0
         have hfz85_1 := bF BK113.out 1
         have hfz85_2 := bF BK113.out 2
         have hfz85_3 := bF BK113.out 3
         have hnb86 := NB112_110.out
         have hnc86 := NB110_112.out
         have hnb87 := NB112_111.out
         have hnc87 := NB111_112.out
         have hcz88_0 : wr.cell? ⟨gb112, 0, none⟩ = some (.int .u64 0) := (blk_cell BK112.out 0).trans rfl
         have hcz88_1 : wr.cell? ⟨gb112, 1, none⟩ = some (.int .u64 0) := (blk_cell BK112.out 1).trans rfl
         have hcz88_2 : wr.cell? ⟨gb112, 2, none⟩ = some (.int .u64 0) := (blk_cell BK112.out 2).trans rfl
         have hcz88_3 : wr.cell? ⟨gb112, 3, none⟩ = some (.int .u64 0) := (blk_cell BK112.out 3).trans rfl
         have hfz88_0 := bF BK112.out 0
         have hfz88_1 := bF BK112.out 1
         have hfz88_2 := bF BK112.out 2
         have hfz88_3 := bF BK112.out 3
         go_wp2
         repeat (go_step3; try go_wp2_with (fail))
         refine bodyPost_ret (results_cell_row rfl _ _ gb112 71 #[.int .u64 x114000_1, .int .u64 x114001_1, .int .u64 x114002_1, .int .u64 x114003_1] (0, 0) _ rfl (by (with_reducible repeat (first | apply bkN | apply bkD | apply bkA)); refine blk_put (cs := #[.int .u64 x114000_1, .int .u64 x114001_1, .int .u64 x114002_1, .int .u64 0]) ?_ 3 _ rfl; (with_reducible repeat (first | apply bkN | apply bkD | apply bkA)); refine blk_put (cs := #[.int .u64 x114000_1, .int .u64 x114001_1, .int .u64 0, .int .u64 0]) ?_ 2 _ rfl; (with_reducible repeat (first | apply bkN | apply bkD | apply bkA)); refine blk_put (cs := #[.int .u64 x114000_1, .int .u64 0, .int .u64 0, .int .u64 0]) ?_ 1 _ rfl; (with_reducible repeat (first | apply bkN | apply bkD | apply bkA)); refine blk_put (cs := #[.int .u64 0, .int .u64 0, .int .u64 0, .int .u64 0]) ?_ 0 _ rfl; (with_reducible repeat (first | apply bkN | apply bkD | apply bkA)); exact BK112.out) Try.underlying71 rfl (by kernel_rfl)) rfl ?_
         exact ⟨by first | rfl | (simp [errW_none, errW_some] <;> rfl) | (simp [*, errW_none, errW_some] <;> rfl), by repeat (first | (with_reducible first | exact HB.out | apply blA | apply blN | apply blD | refine bS ?_ GE110.out | refine bS ?_ GE111.out | refine bS ?_ GE112.out | refine bS ?_ GE113.out) | exact HB.out)⟩
   · rw [if_neg c52] at H
     have c52b0 : (a0_0 == 2) = false := beq_eq_false_iff_ne.mpr c52
     have c52b1 : (a0_0 != 2) = true := bne_iff_ne.mpr c52
     by_cases c89 : a0_0 = 3
     · rw [if_pos c89] at H
       have c89b0 : (a0_0 == 3) = true := beq_iff_eq.mpr c89
       have c89b1 : (a0_0 != 3) = false := bne_eq_false_iff_eq.mpr c89
       clear c89
       have H' := aM H
       clear H
       go_enter Try.func46, Try.ntmps46
       go_wp2_with (first | ((with_reducible refine gate_dst (N := 3) rfl ?_); refine box_event ?hg (N := 3) ?hd (cs := #[.int .i64 a0_0, .slice A0_1 l0_1.length c0_1, .slice A0_2 l0_2.length c0_2]) (t := 25) ?hr ?_; (case hd => rfl); (case hg => rfl); (case hr => first | (go_simp; done) | (go_simp; rfl)); intro gb110 hg w90 hbox hb; have n0_ := aM (below_step (by repeat (first | (with_reducible first | exact HB.out | apply blA | apply blN | apply blD) | exact HB.out)) hb); have n1_ := aM (hbox); have n2_ := aM ((by rw [hg]; exact (below_size (by repeat (first | (with_reducible first | exact HB.out | apply blA | apply blN | apply blD) | exact HB.out))) : w.heap.size ≤ gb110)); have n3_ := aM ((by rw [hg]; exact (below_size (by repeat (first | (with_reducible first | exact HB.out | apply blA | apply blN | apply blD) | exact HB.out))) : w.heap.size ≤ gb110)); clear HB; have HB := n0_; have BK110 := n1_; have GW110 := n2_; have GE110 := n3_; clear n0_ n1_ n2_ n3_; clear hb hbox hg) | ((with_reducible refine gate_dst (N := 5) rfl ?_); refine box_event ?hg (N := 5) ?hd (cs := #[.int .u64 a2_0, .int .u64 a2_1, .int .u64 a2_2, .int .u64 a2_3]) (t := 71) ?hr ?_; (case hd => rfl); (case hg => rfl); (case hr => first | (go_simp; done) | (go_simp; rfl)); intro gb111 hg w91 hbox hb; have n0_ := aM (blk_below (g := gb110) (o := .cells #[.int .i64 a0_0, .slice A0_1 l0_1.length c0_1, .slice A0_2 l0_2.length c0_2] 25 (0, 0)) (by (with_reducible repeat (first | apply bkN | apply bkD | apply bkA)); exact BK110.out) hb); have n1_ := aM (below_step (by repeat (first | (with_reducible first | exact HB.out | apply blA | apply blN | apply blD | refine bS ?_ GE110.out) | exact HB.out)) hb); have n2_ := aM (hbox); have n3_ := aM ((by rw [hg]; exact (below_size (by repeat (first | (with_reducible first | exact HB.out | apply blA | apply blN | apply blD | refine bS ?_ GE110.out) | exact HB.out))) : w.heap.size ≤ gb111)); have n4_ := aM ((by rw [hg]; exact (below_size (by repeat (first | (with_reducible first | exact HB.out | apply blA | apply blN | apply blD | refine bS ?_ GE110.out) | exact HB.out))) : w.heap.size ≤ gb111)); have n5_ := aM ((by rw [hg]; exact Nat.ne_of_lt (blk_lt (g := gb110) (o := .cells #[.int .i64 a0_0, .slice A0_1 l0_1.length c0_1, .slice A0_2 l0_2.length c0_2] 25 (0, 0)) (by (with_reducible repeat (first | apply bkN | apply bkD | apply bkA)); exact BK110.out)) : gb110 ≠ gb111)); have n6_ := aM ((by rw [hg]; exact Nat.ne_of_gt (blk_lt (g := gb110) (o := .cells #[.int .i64 a0_0, .slice A0_1 l0_1.length c0_1, .slice A0_2 l0_2.length c0_2] 25 (0, 0)) (by (with_reducible repeat (first | apply bkN | apply bkD | apply bkA)); exact BK110.out)) : gb111 ≠ gb110)); clear BK110; clear HB; have BK110 := n0_; have HB := n1_; have BK111 := n2_; have GW111 := n3_; have GE111 := n4_; have NB110_111 := n5_; have NB111_110 := n6_; clear n0_ n1_ n2_ n3_ n4_ n5_ n6_; clear hb hbox hg) | ((with_reducible refine gate_dst (N := 6) rfl ?_); refine box_event ?hg (N := 6) ?hd (cs := #[.int .u64 0, .int .u64 0, .int .u64 0, .int .u64 0]) (t := 71) ?hr ?_; (case hd => rfl); (case hg => rfl); (case hr => first | (go_simp; done) | (go_simp; rfl)); intro gb112 hg w92 hbox hb; have n0_ := aM (blk_below (g := gb110) (o := .cells #[.int .i64 a0_0, .slice A0_1 l0_1.length c0_1, .slice A0_2 l0_2.length c0_2] 25 (0, 0)) (by (with_reducible repeat (first | apply bkN | apply bkD | apply bkA)); exact BK110.out) hb); have n1_ := aM (blk_below (g := gb111) (o := .cells #[.int .u64 a2_0, .int .u64 a2_1, .int .u64 a2_2, .int .u64 a2_3] 71 (0, 0)) (by (with_reducible repeat (first | apply bkN | apply bkD | apply bkA)); exact BK111.out) hb); have n2_ := aM (below_step (by repeat (first | (with_reducible first | exact HB.out | apply blA | apply blN | apply blD | refine bS ?_ GE110.out | refine bS ?_ GE111.out) | exact HB.out)) hb); have n3_ := aM (hbox); have n4_ := aM ((by rw [hg]; exact (below_size (by repeat (first | (with_reducible first | exact HB.out | apply blA | apply blN | apply blD | refine bS ?_ GE110.out | refine bS ?_ GE111.out) | exact HB.out))) : w.heap.size ≤ gb112)); have n5_ := aM ((by rw [hg]; exact (below_size (by repeat (first | (with_reducible first | exact HB.out | apply blA | apply blN | apply blD | refine bS ?_ GE110.out | refine bS ?_ GE111.out) | exact HB.out))) : w.heap.size ≤ gb112)); have n6_ := aM ((by rw [hg]; exact Nat.ne_of_lt (blk_lt (g := gb110) (o := .cells #[.int .i64 a0_0, .slice A0_1 l0_1.length c0_1, .slice A0_2 l0_2.length c0_2] 25 (0, 0)) (by (with_reducible repeat (first | apply bkN | apply bkD | apply bkA)); exact BK110.out)) : gb110 ≠ gb112)); have n7_ := aM ((by rw [hg]; exact Nat.ne_of_gt (blk_lt (g := gb110) (o := .cells #[.int .i64 a0_0, .slice A0_1 l0_1.length c0_1, .slice A0_2 l0_2.length c0_2] 25 (0, 0)) (by (with_reducible repeat (first | apply bkN | apply bkD | apply bkA)); exact BK110.out)) : gb112 ≠ gb110)); have n8_ := aM ((by rw [hg]; exact Nat.ne_of_lt (blk_lt (g := gb111) (o := .cells #[.int .u64 a2_0, .int .u64 a2_1, .int .u64 a2_2, .int .u64 a2_3] 71 (0, 0)) (by (with_reducible repeat (first | apply bkN | apply bkD | apply bkA)); exact BK111.out)) : gb111 ≠ gb112)); have n9_ := aM ((by rw [hg]; exact Nat.ne_of_gt (blk_lt (g := gb111) (o := .cells #[.int .u64 a2_0, .int .u64 a2_1, .int .u64 a2_2, .int .u64 a2_3] 71 (0, 0)) (by (with_reducible repeat (first | apply bkN | apply bkD | apply bkA)); exact BK111.out)) : gb112 ≠ gb111)); clear BK110; clear BK111; clear HB; have BK110 := n0_; have BK111 := n1_; have HB := n2_; have BK112 := n3_; have GW112 := n4_; have GE112 := n5_; have NB110_112 := n6_; have NB112_110 := n7_; have NB111_112 := n8_; have NB112_111 := n9_; clear n0_ n1_ n2_ n3_ n4_ n5_ n6_ n7_ n8_ n9_; clear hb hbox hg) | ((with_reducible refine gate_dst (N := 7) rfl ?_); refine box_event ?hg (N := 7) ?hd (cs := #[.int .u64 0, .int .u64 0, .int .u64 0, .int .u64 0]) (t := 71) ?hr ?_; (case hd => rfl); (case hg => rfl); (case hr => first | (go_simp; done) | (go_simp; rfl)); intro gb113 hg w93 hbox hb; have n0_ := aM (blk_below (g := gb110) (o := .cells #[.int .i64 a0_0, .slice A0_1 l0_1.length c0_1, .slice A0_2 l0_2.length c0_2] 25 (0, 0)) (by (with_reducible repeat (first | apply bkN | apply bkD | apply bkA)); exact BK110.out) hb); have n1_ := aM (blk_below (g := gb111) (o := .cells #[.int .u64 a2_0, .int .u64 a2_1, .int .u64 a2_2, .int .u64 a2_3] 71 (0, 0)) (by (with_reducible repeat (first | apply bkN | apply bkD | apply bkA)); exact BK111.out) hb); have n2_ := aM (blk_below (g := gb112) (o := .cells #[.int .u64 0, .int .u64 0, .int .u64 0, .int .u64 0] 71 (0, 0)) (by (with_reducible repeat (first | apply bkN | apply bkD | apply bkA)); exact BK112.out) hb); have n3_ := aM (below_step (by repeat (first | (with_reducible first | exact HB.out | apply blA | apply blN | apply blD | refine bS ?_ GE110.out | refine bS ?_ GE111.out | refine bS ?_ GE112.out) | exact HB.out)) hb); have n4_ := aM (hbox); have n5_ := aM ((by rw [hg]; exact (below_size (by repeat (first | (with_reducible first | exact HB.out | apply blA | apply blN | apply blD | refine bS ?_ GE110.out | refine bS ?_ GE111.out | refine bS ?_ GE112.out) | exact HB.out))) : w.heap.size ≤ gb113)); have n6_ := aM ((by rw [hg]; exact (below_size (by repeat (first | (with_reducible first | exact HB.out | apply blA | apply blN | apply blD | refine bS ?_ GE110.out | refine bS ?_ GE111.out | refine bS ?_ GE112.out) | exact HB.out))) : w.heap.size ≤ gb113)); have n7_ := aM ((by rw [hg]; exact Nat.ne_of_lt (blk_lt (g := gb110) (o := .cells #[.int .i64 a0_0, .slice A0_1 l0_1.length c0_1, .slice A0_2 l0_2.length c0_2] 25 (0, 0)) (by (with_reducible repeat (first | apply bkN | apply bkD | apply bkA)); exact BK110.out)) : gb110 ≠ gb113)); have n8_ := aM ((by rw [hg]; exact Nat.ne_of_gt (blk_lt (g := gb110) (o := .cells #[.int .i64 a0_0, .slice A0_1 l0_1.length c0_1, .slice A0_2 l0_2.length c0_2] 25 (0, 0)) (by (with_reducible repeat (first | apply bkN | apply bkD | apply bkA)); exact BK110.out)) : gb113 ≠ gb110)); have n9_ := aM ((by rw [hg]; exact Nat.ne_of_lt (blk_lt (g := gb111) (o := .cells #[.int .u64 a2_0, .int .u64 a2_1, .int .u64 a2_2, .int .u64 a2_3] 71 (0, 0)) (by (with_reducible repeat (first | apply bkN | apply bkD | apply bkA)); exact BK111.out)) : gb111 ≠ gb113)); have n10_ := aM ((by rw [hg]; exact Nat.ne_of_gt (blk_lt (g := gb111) (o := .cells #[.int .u64 a2_0, .int .u64 a2_1, .int .u64 a2_2, .int .u64 a2_3] 71 (0, 0)) (by (with_reducible repeat (first | apply bkN | apply bkD | apply bkA)); exact BK111.out)) : gb113 ≠ gb111)); have n11_ := aM ((by rw [hg]; exact Nat.ne_of_lt (blk_lt (g := gb112) (o := .cells #[.int .u64 0, .int .u64 0, .int .u64 0, .int .u64 0] 71 (0, 0)) (by (with_reducible repeat (first | apply bkN | apply bkD | apply bkA)); exact BK112.out)) : gb112 ≠ gb113)); have n12_ := aM ((by rw [hg]; exact Nat.ne_of_gt (blk_lt (g := gb112) (o := .cells #[.int .u64 0, .int .u64 0, .int .u64 0, .int .u64 0] 71 (0, 0)) (by (with_reducible repeat (first | apply bkN | apply bkD | apply bkA)); exact BK112.out)) : gb113 ≠ gb112)); clear BK110; clear BK111; clear BK112; clear HB; have BK110 := n0_; have BK111 := n1_; have BK112 := n2_; have HB := n3_; have BK113 := n4_; have GW113 := n5_; have GE113 := n6_; have NB110_113 := n7_; have NB113_110 := n8_; have NB111_113 := n9_; have NB113_111 := n10_; have NB112_113 := n11_; have NB113_112 := n12_; clear n0_ n1_ n2_ n3_ n4_ n5_ n6_ n7_ n8_ n9_ n10_ n11_ n12_; clear hb hbox hg; have hnb94 := NB110_111.out; have hnc94 := NB111_110.out; have hnb95 := NB110_112.out; have hnc95 := NB112_110.out; have hnb96 := NB110_113.out; have hnc96 := NB113_110.out; have hcz97_0 : w93.cell? ⟨gb110, 0, none⟩ = some (.int .i64 a0_0) := (blk_cell BK110.out 0).trans rfl; have hcz97_1 : w93.cell? ⟨gb110, 1, none⟩ = some (.slice A0_1 l0_1.length c0_1) := (blk_cell BK110.out 1).trans rfl; have hcz97_2 : w93.cell? ⟨gb110, 2, none⟩ = some (.slice A0_2 l0_2.length c0_2) := (blk_cell BK110.out 2).trans rfl; have hfz97_0 := bF BK110.out 0; have hfz97_1 := bF BK110.out 1; have hfz97_2 := bF BK110.out 2))
       repeat (go_step3; try go_wp2_with (fail))
       go_loopg [59] k (fun kq v59 w' => ∃ (x59_1 : Int) (x114000_1 : Int) (x114001_1 : Int) (x114002_1 : Int) (x114003_1 : Int), v59 = .int .i64 x59_1 ∧ Aside0 (pat_ends.l2 kq l1 l0_2 (l0_2.length : Int) x59_1 a2_0 a2_1 a2_2 a2_3 x114000_1 x114001_1 x114002_1 x114003_1 = some (r1, r2, r3, r4)) ∧ Aside0 (kq ≤ k) ∧ Aside0 (w'.heap[gb110]? = some (.cells #[.int .i64 a0_0, (.slice A0_1 l0_1.length c0_1), (.slice A0_2 l0_2.length c0_2)] 25 (0, 0))) ∧ Aside0 (w'.heap[gb111]? = some (.cells #[.int .u64 a2_0, .int .u64 a2_1, .int .u64 a2_2, .int .u64 a2_3] 71 (0, 0))) ∧ Aside0 (w'.heap[gb112]? = some (.cells #[.int .u64 0, .int .u64 0, .int .u64 0, .int .u64 0] 71 (0, 0))) ∧ Aside0 (w'.heap[gb113]? = some (.cells #[.int .u64 x114000_1, .int .u64 x114001_1, .int .u64 x114002_1, .int .u64 x114003_1] 71 (0, 0))) ∧ Aside0 (Below w.heap.size w w'))
       case atStart => exact ⟨(0), (0), (0), (0), (0), (by first | rfl | (simp; done) | (simp [*]; done)), H', ⟨Nat.le_refl _⟩, ⟨by (with_reducible repeat (first | apply bkN | apply bkD | apply bkA)); exact BK110.out⟩, ⟨by (with_reducible repeat (first | apply bkN | apply bkD | apply bkA)); exact BK111.out⟩, ⟨by (with_reducible repeat (first | apply bkN | apply bkD | apply bkA)); exact BK112.out⟩, ⟨by (with_reducible repeat (first | apply bkN | apply bkD | apply bkA)); exact BK113.out⟩, ⟨by repeat (first | (with_reducible first | exact HB.out | apply blA | apply blN | apply blD | refine bS ?_ GE110.out | refine bS ?_ GE111.out | refine bS ?_ GE112.out | refine bS ?_ GE113.out) | exact HB.out)⟩⟩
       case round =>
        clear H'
        obtain ⟨x59_1, x114000_1, x114001_1, x114002_1, x114003_1, rfl, HA, HK1, BK110, BK111, BK112, BK113, HB⟩ := hrel
        cases gk with
        | zero => exact absurd HA.out (by simp [pat_ends.l2])
        | succ k1 =>
         have H := HA.out
         clear HA
         simp only [pat_ends.l2] at H
         by_cases c98 : x59_1 < (l0_2.length : Int)
         · rw [if_pos c98] at H
           have c98b0 : decide (x59_1 < (l0_2.length : Int)) = true := decide_eq_true c98
           clear c98
           by_cases c99 : 0 ≤ x59_1
           · rw [if_pos c99] at H
             have c99b0 : decide (0 ≤ x59_1) = true := decide_eq_true c99
             clear c99
             by_cases c100 : x59_1 < (l0_2.length : Int)
             · rw [if_pos c100] at H
               have c100b0 : decide (x59_1 < (l0_2.length : Int)) = true := decide_eq_true c100
               clear c100
               replace H := Option.bind_eq_some_iff.mp H
               obtain ⟨⟨t129, t130, t131, t132⟩, A1010, H⟩ := H
               replace H : ((pat_places_with.f x114000_1 x114001_1 x114002_1 x114003_1 t129 t130 t131 t132).bind fun bt133 => (pat_ends.l2 k1 l1 l0_2 (l0_2.length : Int) (wrap64 (x59_1 + 1)) a2_0 a2_1 a2_2 a2_3 bt133.1 bt133.2.1 bt133.2.2.1 bt133.2.2.2)) = some (r1, r2, r3, r4) := H
               have A101 := aM A1010
               clear A1010
               replace H := Option.bind_eq_some_iff.mp H
               obtain ⟨⟨t133, t134, t135, t136⟩, A1020, H⟩ := H
               replace H : (pat_ends.l2 k1 l1 l0_2 (l0_2.length : Int) (wrap64 (x59_1 + 1)) a2_0 a2_1 a2_2 a2_3 t133 t134 t135 t136) = some (r1, r2, r3, r4) := H
               have A102 := aM A1020
               clear A1020
               have H' := aM H
               clear H
               have p127 : 0 ≤ (x59_1 : Int) := of_decide_eq_true (by first | (with_reducible assumption) | assumption)
               have q127 : x59_1 < (l0_2.length : Int) := of_decide_eq_true (by first | (with_reducible assumption) | assumption)
               obtain ⟨ad127, A127_1, c127_1, A127_2, c127_2, e127, hx127_0, hx127_1, hx127_2, hl127_1, hi127_1, hl127_2, hi127_2⟩ := at_T25 HR0_2.out x59_1 p127 q127
               cases e127
               replace hx127_0 := (HB.out.cell (World.block_lt_of_cell? w _ hx127_0)).trans hx127_0
               replace hx127_1 := (HB.out.cell (World.block_lt_of_cell? w _ hx127_1)).trans hx127_1
               replace hx127_2 := (HB.out.cell (World.block_lt_of_cell? w _ hx127_2)).trans hx127_2
               have HR127_1 := aM hi127_1
               have HC127_1 := aM hl127_1
               clear hi127_1 hl127_1
               have HR127_2 := aM hi127_2
               have HC127_2 := aM hl127_2
               clear hi127_2 hl127_2
               replace p127 := eq_true p127
               replace q127 := eq_true q127
               try go_wp2_with (first | ((with_reducible refine gate_dst (N := 13) rfl ?_); refine box_event ?hg (N := 13) ?hd (cs := #[.int .i64 0, .slice none 0 0, .slice none 0 0]) (t := 25) ?hr ?_; (case hd => rfl); (case hg => rfl); (case hr => first | (go_simp; done) | (go_simp; rfl)); intro gb128 hg w103 hbox hb; have n0_ := aM (blk_below (g := gb110) (o := .cells #[.int .i64 a0_0, .slice A0_1 l0_1.length c0_1, .slice (some ad127) l0_2.length c0_2] 25 (0, 0)) (by (with_reducible repeat (first | apply bkN | apply bkD | apply bkA)); exact BK110.out) hb); have n1_ := aM (blk_below (g := gb111) (o := .cells #[.int .u64 a2_0, .int .u64 a2_1, .int .u64 a2_2, .int .u64 a2_3] 71 (0, 0)) (by (with_reducible repeat (first | apply bkN | apply bkD | apply bkA)); exact BK111.out) hb); have n2_ := aM (blk_below (g := gb112) (o := .cells #[.int .u64 0, .int .u64 0, .int .u64 0, .int .u64 0] 71 (0, 0)) (by (with_reducible repeat (first | apply bkN | apply bkD | apply bkA)); exact BK112.out) hb); have n3_ := aM (blk_below (g := gb113) (o := .cells #[.int .u64 x114000_1, .int .u64 x114001_1, .int .u64 x114002_1, .int .u64 x114003_1] 71 (0, 0)) (by (with_reducible repeat (first | apply bkN | apply bkD | apply bkA)); exact BK113.out) hb); have n4_ := aM (below_step (by repeat (first | (with_reducible first | exact HB.out | apply blA | apply blN | apply blD | refine bS ?_ GE110.out | refine bS ?_ GE111.out | refine bS ?_ GE112.out | refine bS ?_ GE113.out) | exact HB.out)) hb); have n5_ := aM (hbox); have n6_ := aM ((by rw [hg]; exact (below_size (by repeat (first | (with_reducible first | exact HB.out | apply blA | apply blN | apply blD | refine bS ?_ GE110.out | refine bS ?_ GE111.out | refine bS ?_ GE112.out | refine bS ?_ GE113.out) | exact HB.out))) : w.heap.size ≤ gb128)); have n7_ := aM ((by rw [hg]; exact (below_size (by repeat (first | (with_reducible first | exact HB.out | apply blA | apply blN | apply blD | refine bS ?_ GE110.out | refine bS ?_ GE111.out | refine bS ?_ GE112.out | refine bS ?_ GE113.out) | exact HB.out))) : w.heap.size ≤ gb128)); have n8_ := aM ((by rw [hg]; exact Nat.ne_of_lt (blk_lt (g := gb110) (o := .cells #[.int .i64 a0_0, .slice A0_1 l0_1.length c0_1, .slice (some ad127) l0_2.length c0_2] 25 (0, 0)) (by (with_reducible repeat (first | apply bkN | apply bkD | apply bkA)); exact BK110.out)) : gb110 ≠ gb128)); have n9_ := aM ((by rw [hg]; exact Nat.ne_of_gt (blk_lt (g := gb110) (o := .cells #[.int .i64 a0_0, .slice A0_1 l0_1.length c0_1, .slice (some ad127) l0_2.length c0_2] 25 (0, 0)) (by (with_reducible repeat (first | apply bkN | apply bkD | apply bkA)); exact BK110.out)) : gb128 ≠ gb110)); have n10_ := aM ((by rw [hg]; exact Nat.ne_of_lt (blk_lt (g := gb111) (o := .cells #[.int .u64 a2_0, .int .u64 a2_1, .int .u64 a2_2, .int .u64 a2_3] 71 (0, 0)) (by (with_reducible repeat (first | apply bkN | apply bkD | apply bkA)); exact BK111.out)) : gb111 ≠ gb128)); have n11_ := aM ((by rw [hg]; exact Nat.ne_of_gt (blk_lt (g := gb111) (o := .cells #[.int .u64 a2_0, .int .u64 a2_1, .int .u64 a2_2, .int .u64 a2_3] 71 (0, 0)) (by (with_reducible repeat (first | apply bkN | apply bkD | apply bkA)); exact BK111.out)) : gb128 ≠ gb111)); have n12_ := aM ((by rw [hg]; exact Nat.ne_of_lt (blk_lt (g := gb112) (o := .cells #[.int .u64 0, .int .u64 0, .int .u64 0, .int .u64 0] 71 (0, 0)) (by (with_reducible repeat (first | apply bkN | apply bkD | apply bkA)); exact BK112.out)) : gb112 ≠ gb128)); have n13_ := aM ((by rw [hg]; exact Nat.ne_of_gt (blk_lt (g := gb112) (o := .cells #[.int .u64 0, .int .u64 0, .int .u64 0, .int .u64 0] 71 (0, 0)) (by (with_reducible repeat (first | apply bkN | apply bkD | apply bkA)); exact BK112.out)) : gb128 ≠ gb112)); have n14_ := aM ((by rw [hg]; exact Nat.ne_of_lt (blk_lt (g := gb113) (o := .cells #[.int .u64 x114000_1, .int .u64 x114001_1, .int .u64 x114002_1, .int .u64 x114003_1] 71 (0, 0)) (by (with_reducible repeat (first | apply bkN | apply bkD | apply bkA)); exact BK113.out)) : gb113 ≠ gb128)); have n15_ := aM ((by rw [hg]; exact Nat.ne_of_gt (blk_lt (g := gb113) (o := .cells #[.int .u64 x114000_1, .int .u64 x114001_1, .int .u64 x114002_1, .int .u64 x114003_1] 71 (0, 0)) (by (with_reducible repeat (first | apply bkN | apply bkD | apply bkA)); exact BK113.out)) : gb128 ≠ gb113)); clear BK110; clear BK111; clear BK112; clear BK113; clear HB; have BK110 := n0_; have BK111 := n1_; have BK112 := n2_; have BK113 := n3_; have HB := n4_; have BK128 := n5_; have GW128 := n6_; have GE128 := n7_; have NB110_128 := n8_; have NB128_110 := n9_; have NB111_128 := n10_; have NB128_111 := n11_; have NB112_128 := n12_; have NB128_112 := n13_; have NB113_128 := n14_; have NB128_113 := n15_; clear n0_ n1_ n2_ n3_ n4_ n5_ n6_ n7_ n8_ n9_ n10_ n11_ n12_ n13_ n14_ n15_; clear hb hbox hg; have hnb104 := NB128_110.out; have hnc104 := NB110_128.out; have hnb105 := NB128_111.out; have hnc105 := NB111_128.out; have hnb106 := NB128_112.out; have hnc106 := NB112_128.out; have hnb107 := NB128_113.out; have hnc107 := NB113_128.out; have hcz108_0 : w103.cell? ⟨gb128, 0, none⟩ = some (.int .i64 0) := (blk_cell BK128.out 0).trans rfl; have hcz108_1 : w103.cell? ⟨gb128, 1, none⟩ = some (.slice none 0 0) := (blk_cell BK128.out 1).trans rfl; have hcz108_2 : w103.cell? ⟨gb128, 2, none⟩ = some (.slice none 0 0) := (blk_cell BK128.out 2).trans rfl; have hfz108_0 := bF BK128.out 0; have hfz108_1 := bF BK128.out 1; have hfz108_2 := bF BK128.out 2))
               repeat (go_step3; try go_wp2_with (fail))
               have n0_ : Aside0 ((((w103.setCell ⟨gb128, 0, none⟩ (.int .i64 ((rd_T25 l0_2 x59_1).f0))).setCell ⟨gb128, 1, none⟩ (.slice A127_1 ((rd_T25 l0_2 x59_1).f1).length c127_1)).setCell ⟨gb128, 2, none⟩ (.slice A127_2 ((rd_T25 l0_2 x59_1).f2).length c127_2)).heap[gb110]? = some (.cells #[.int .i64 a0_0, .slice A0_1 l0_1.length c0_1, .slice (some ad127) l0_2.length c0_2] 25 (0, 0))) := ⟨by (with_reducible repeat (first | apply bkN | apply bkD | apply bkA)); refine blk_far ?_ NB110_128.out _; (with_reducible repeat (first | apply bkN | apply bkD | apply bkA)); refine blk_far ?_ NB110_128.out _; (with_reducible repeat (first | apply bkN | apply bkD | apply bkA)); refine blk_far ?_ NB110_128.out _; (with_reducible repeat (first | apply bkN | apply bkD | apply bkA)); exact BK110.out⟩
               have n1_ : Aside0 ((((w103.setCell ⟨gb128, 0, none⟩ (.int .i64 ((rd_T25 l0_2 x59_1).f0))).setCell ⟨gb128, 1, none⟩ (.slice A127_1 ((rd_T25 l0_2 x59_1).f1).length c127_1)).setCell ⟨gb128, 2, none⟩ (.slice A127_2 ((rd_T25 l0_2 x59_1).f2).length c127_2)).heap[gb111]? = some (.cells #[.int .u64 a2_0, .int .u64 a2_1, .int .u64 a2_2, .int .u64 a2_3] 71 (0, 0))) := ⟨by (with_reducible repeat (first | apply bkN | apply bkD | apply bkA)); refine blk_far ?_ NB111_128.out _; (with_reducible repeat (first | apply bkN | apply bkD | apply bkA)); refine blk_far ?_ NB111_128.out _; (with_reducible repeat (first | apply bkN | apply bkD | apply bkA)); refine blk_far ?_ NB111_128.out _; (with_reducible repeat (first | apply bkN | apply bkD | apply bkA)); exact BK111.out⟩
               have n2_ : Aside0 ((((w103.setCell ⟨gb128, 0, none⟩ (.int .i64 ((rd_T25 l0_2 x59_1).f0))).setCell ⟨gb128, 1, none⟩ (.slice A127_1 ((rd_T25 l0_2 x59_1).f1).length c127_1)).setCell ⟨gb128, 2, none⟩ (.slice A127_2 ((rd_T25 l0_2 x59_1).f2).length c127_2)).heap[gb112]? = some (.cells #[.int .u64 0, .int .u64 0, .int .u64 0, .int .u64 0] 71 (0, 0))) := ⟨by (with_reducible repeat (first | apply bkN | apply bkD | apply bkA)); refine blk_far ?_ NB112_128.out _; (with_reducible repeat (first | apply bkN | apply bkD | apply bkA)); refine blk_far ?_ NB112_128.out _; (with_reducible repeat (first | apply bkN | apply bkD | apply bkA)); refine blk_far ?_ NB112_128.out _; (with_reducible repeat (first | apply bkN | apply bkD | apply bkA)); exact BK112.out⟩
               have n3_ : Aside0 ((((w103.setCell ⟨gb128, 0, none⟩ (.int .i64 ((rd_T25 l0_2 x59_1).f0))).setCell ⟨gb128, 1, none⟩ (.slice A127_1 ((rd_T25 l0_2 x59_1).f1).length c127_1)).setCell ⟨gb128, 2, none⟩ (.slice A127_2 ((rd_T25 l0_2 x59_1).f2).length c127_2)).heap[gb113]? = some (.cells #[.int .u64 x114000_1, .int .u64 x114001_1, .int .u64 x114002_1, .int .u64 x114003_1] 71 (0, 0))) := ⟨by (with_reducible repeat (first | apply bkN | apply bkD | apply bkA)); refine blk_far ?_ NB113_128.out _; (with_reducible repeat (first | apply bkN | apply bkD | apply bkA)); refine blk_far ?_ NB113_128.out _; (with_reducible repeat (first | apply bkN | apply bkD | apply bkA)); refine blk_far ?_ NB113_128.out _; (with_reducible repeat (first | apply bkN | apply bkD | apply bkA)); exact BK113.out⟩
               have n4_ : Aside0 ((((w103.setCell ⟨gb128, 0, none⟩ (.int .i64 ((rd_T25 l0_2 x59_1).f0))).setCell ⟨gb128, 1, none⟩ (.slice A127_1 ((rd_T25 l0_2 x59_1).f1).length c127_1)).setCell ⟨gb128, 2, none⟩ (.slice A127_2 ((rd_T25 l0_2 x59_1).f2).length c127_2)).heap[gb128]? = some (.cells #[.int .i64 ((rd_T25 l0_2 x59_1).f0), .slice A127_1 ((rd_T25 l0_2 x59_1).f1).length c127_1, .slice A127_2 ((rd_T25 l0_2 x59_1).f2).length c127_2] 25 (0, 0))) := ⟨by (with_reducible repeat (first | apply bkN | apply bkD | apply bkA)); refine blk_put (cs := #[.int .i64 ((rd_T25 l0_2 x59_1).f0), .slice A127_1 ((rd_T25 l0_2 x59_1).f1).length c127_1, .slice none 0 0]) ?_ 2 _ rfl; (with_reducible repeat (first | apply bkN | apply bkD | apply bkA)); refine blk_put (cs := #[.int .i64 ((rd_T25 l0_2 x59_1).f0), .slice none 0 0, .slice none 0 0]) ?_ 1 _ rfl; (with_reducible repeat (first | apply bkN | apply bkD | apply bkA)); refine blk_put (cs := #[.int .i64 0, .slice none 0 0, .slice none 0 0]) ?_ 0 _ rfl; (with_reducible repeat (first | apply bkN | apply bkD | apply bkA)); exact BK128.out⟩
               have n5_ : Aside0 (Below w.heap.size w (((w103.setCell ⟨gb128, 0, none⟩ (.int .i64 ((rd_T25 l0_2 x59_1).f0))).setCell ⟨gb128, 1, none⟩ (.slice A127_1 ((rd_T25 l0_2 x59_1).f1).length c127_1)).setCell ⟨gb128, 2, none⟩ (.slice A127_2 ((rd_T25 l0_2 x59_1).f2).length c127_2))) := ⟨by repeat (first | (with_reducible first | exact HB.out | apply blA | apply blN | apply blD | refine bS ?_ GE110.out | refine bS ?_ GE111.out | refine bS ?_ GE112.out | refine bS ?_ GE113.out | refine bS ?_ GE128.out) | exact HB.out)⟩
               (try clear BK110)
               (try clear BK111)
               (try clear BK112)
               (try clear BK113)
               (try clear BK128)
               (try clear HB)
               generalize (((w103.setCell ⟨gb128, 0, none⟩ (.int .i64 ((rd_T25 l0_2 x59_1).f0))).setCell ⟨gb128, 1, none⟩ (.slice A127_1 ((rd_T25 l0_2 x59_1).f1).length c127_1)).setCell ⟨gb128, 2, none⟩ (.slice A127_2 ((rd_T25 l0_2 x59_1).f2).length c127_2)) = w109 at n0_ n1_ n2_ n3_ n4_ n5_ ⊢
               have BK110 := n0_
               have BK111 := n1_
               have BK112 := n2_
               have BK113 := n3_
               have BK128 := n4_
               have HB := n5_
               clear n0_ n1_ n2_ n3_ n4_ n5_
               have n0_ := aM (blk_drew BK110.out)
               have n1_ := aM (blk_drew BK111.out)
               have n2_ := aM (blk_drew BK112.out)
               have n3_ := aM (blk_drew BK113.out)
               have n4_ := aM (blk_drew BK128.out)
               have n5_ := aM (below_drew1 HB.out)
               clear BK110
               clear BK111
               clear BK112
               clear BK113
               clear BK128
               clear HB
               have BK110 := n0_
               have BK111 := n1_
               have BK112 := n2_
               have BK113 := n3_
               have BK128 := n4_
               have HB := n5_
               clear n0_ n1_ n2_ n3_ n4_ n5_
               refine start_ (n := 7) (S := fun w' => w'.cell? ⟨gb113, 0, none⟩ = some (.int .u64 x114000_1) ∧ w'.cell? ⟨gb113, 1, none⟩ = some (.int .u64 x114001_1) ∧ w'.cell? ⟨gb113, 2, none⟩ = some (.int .u64 x114002_1) ∧ w'.cell? ⟨gb113, 3, none⟩ = some (.int .u64 x114003_1) ∧ w'.cell? ⟨gb128, 0, none⟩ = some (.int .i64 ((rd_T25 l0_2 x59_1).f0)) ∧ w'.cell? ⟨gb128, 1, none⟩ = some (.slice A127_1 ((rd_T25 l0_2 x59_1).f1).length c127_1) ∧ w'.cell? ⟨gb128, 2, none⟩ = some (.slice A127_2 ((rd_T25 l0_2 x59_1).f2).length c127_2) ∧ w'.cell? ⟨gb111, 0, none⟩ = some (.int .u64 a2_0) ∧ w'.cell? ⟨gb111, 1, none⟩ = some (.int .u64 a2_1) ∧ w'.cell? ⟨gb111, 2, none⟩ = some (.int .u64 a2_2) ∧ w'.cell? ⟨gb111, 3, none⟩ = some (.int .u64 a2_3)) (ds := [6]) #[false, false, false, false, false, false, false] (by kernel_rfl) rfl rfl ⟨(blk_cell BK113.out 0).trans rfl, (blk_cell BK113.out 1).trans rfl, (blk_cell BK113.out 2).trans rfl, (blk_cell BK113.out 3).trans rfl, (blk_cell BK128.out 0).trans rfl, (blk_cell BK128.out 1).trans rfl, (blk_cell BK128.out 2).trans rfl, (blk_cell BK111.out 0).trans rfl, (blk_cell BK111.out 1).trans rfl, (blk_cell BK111.out 2).trans rfl, (blk_cell BK111.out 3).trans rfl⟩ (fun hHeld => ?_)
               generalize w109.drew = w110 at BK110 BK111 BK112 BK113 BK128 HB hHeld ⊢
               refine pure_ (i := 2) (N := some 65) (v := ?_) (a' := ?_) #[false, false, true, false, false, false, false] rfl rfl (by kernel_rfl) (fun _ _ _ h => h) (Or.inl ⟨by rfl, ?_⟩) ?_ ?_
               rotate_left
               · intro w'
                 go_simp
                 with_reducible rfl
               rotate_left
               · simp only [Act.put, List.setIfInBounds_toArray, List.set_cons_zero, List.set_cons_succ, i64_w, i32_w]
                 rfl
               refine take_ (i := 0) (N := some 63) (v := ?_) (a' := ?_) #[true, false, true, false, false, false, false] rfl rfl (by kernel_rfl) (fun _ _ _ h => h) (Or.inl ⟨by rfl, ?_⟩) hHeld ?_ ?_
               rotate_left
               · rintro w' ⟨s0, s1, s2, s3, s4, s5, s6, s7, s8, s9, s10⟩
                 go_simp
                 with_reducible rfl
               rotate_left
               · simp only [Act.put, List.setIfInBounds_toArray, List.set_cons_zero, List.set_cons_succ, i64_w, i32_w]
                 rfl
               refine take_ (i := 1) (N := some 64) (v := ?_) (a' := ?_) #[true, true, true, false, false, false, false] rfl rfl (by kernel_rfl) (fun _ _ _ h => h) (Or.inl ⟨by rfl, ?_⟩) hHeld ?_ ?_
               rotate_left
               · rintro w' ⟨s0, s1, s2, s3, s4, s5, s6, s7, s8, s9, s10⟩
                 go_simp
                 with_reducible rfl
               rotate_left
               · simp only [Act.put, List.setIfInBounds_toArray, List.set_cons_zero, List.set_cons_succ, i64_w, i32_w]
                 rfl
               refine take_ (i := 3) (N := some 66) (v := ?_) (a' := ?_) #[true, true, true, true, false, false, false] rfl rfl (by kernel_rfl) (fun _ _ _ h => h) (Or.inl ⟨by rfl, ?_⟩) hHeld ?_ ?_
               rotate_left
               · rintro w' ⟨s0, s1, s2, s3, s4, s5, s6, s7, s8, s9, s10⟩
                 go_simp
                 with_reducible rfl
               rotate_left
               · simp only [Act.put, List.setIfInBounds_toArray, List.set_cons_zero, List.set_cons_succ, i64_w, i32_w]
                 rfl
               refine one_ (i := 4) (N := some 67) #[true, true, true, true, true, false, false] rfl rfl (by kernel_rfl) (by decide) (fun K hK => ?_)
               refine goes_ Try.func46 (by kernel_rfl) rfl #[.agg #[.int .i64 ((rd_T25 l0_2 x59_1).f0), .slice A127_1 ((rd_T25 l0_2 x59_1).f1).length c127_1, .slice A127_2 ((rd_T25 l0_2 x59_1).f2).length c127_2], .slice A1 l1.length c1, .agg #[.int .u64 a2_0, .int .u64 a2_1, .int .u64 a2_2, .int .u64 a2_3]] (by rfl) rfl rfl (by (try simp only [List.map_toArray, List.map_cons, List.map_nil]); first | done | rfl | (simp only [List.length_drop, List.length_take]; rfl)) ?_
               with_reducible refine (ih k1 (by have := HK1.out; omega) ((rd_T25 l0_2 x59_1).f0) _ _ ((rd_T25 l0_2 x59_1).f1) _ _ ((rd_T25 l0_2 x59_1).f2) _ _ l1 a2_0 a2_1 a2_2 a2_3 t129 t130 t131 t132 _ ?side1 ?side2 ?side3 ?side4 ?side5 ?side6 A101.out).mono ?_
               (case side1 => repeat (first | exact (Kd.C_below HR127_1.out HB.out) | (with_reducible refine Kd.C_alloc ?_ _) | (with_reducible refine Kd.C_drewN ?_ _) | (with_reducible refine Kd.C_drew ?_)))
               (case side2 => exact HC127_1.out)
               (case side3 => repeat (first | exact (Kd.C_below HR127_2.out HB.out) | (with_reducible refine Kd.C_alloc ?_ _) | (with_reducible refine Kd.C_drewN ?_ _) | (with_reducible refine Kd.C_drew ?_)))
               (case side4 => exact HC127_2.out)
               (case side5 => repeat (first | exact (Kd.C_below HR1.out HB.out) | (with_reducible refine Kd.C_alloc ?_ _) | (with_reducible refine Kd.C_drewN ?_ _) | (with_reducible refine Kd.C_drew ?_)))
               (case side6 => exact HC1.out)
               rintro e w111 ⟨rfl, hb⟩
               refine ⟨_, rfl, ?_⟩
               have n0_ := aM (blk_below (g := gb110) (o := .cells #[.int .i64 a0_0, .slice A0_1 l0_1.length c0_1, .slice (some ad127) l0_2.length c0_2] 25 (0, 0)) (by (with_reducible repeat (first | apply bkN | apply bkD | apply bkA)); exact BK110.out) hb)
               have n1_ := aM (blk_below (g := gb111) (o := .cells #[.int .u64 a2_0, .int .u64 a2_1, .int .u64 a2_2, .int .u64 a2_3] 71 (0, 0)) (by (with_reducible repeat (first | apply bkN | apply bkD | apply bkA)); exact BK111.out) hb)
               have n2_ := aM (blk_below (g := gb112) (o := .cells #[.int .u64 0, .int .u64 0, .int .u64 0, .int .u64 0] 71 (0, 0)) (by (with_reducible repeat (first | apply bkN | apply bkD | apply bkA)); exact BK112.out) hb)
               have n3_ := aM (blk_below (g := gb113) (o := .cells #[.int .u64 x114000_1, .int .u64 x114001_1, .int .u64 x114002_1, .int .u64 x114003_1] 71 (0, 0)) (by (with_reducible repeat (first | apply bkN | apply bkD | apply bkA)); exact BK113.out) hb)
               have n4_ := aM (blk_below (g := gb128) (o := .cells #[.int .i64 ((rd_T25 l0_2 x59_1).f0), .slice A127_1 ((rd_T25 l0_2 x59_1).f1).length c127_1, .slice A127_2 ((rd_T25 l0_2 x59_1).f2).length c127_2] 25 (0, 0)) (by (with_reducible repeat (first | apply bkN | apply bkD | apply bkA)); exact BK128.out) hb)
               have n5_ := aM (below_step (by repeat (first | (with_reducible first | exact HB.out | apply blA | apply blN | apply blD | refine bS ?_ GE110.out | refine bS ?_ GE111.out | refine bS ?_ GE112.out | refine bS ?_ GE113.out | refine bS ?_ GE128.out) | exact HB.out)) hb)
               clear BK110
               clear BK111
               clear BK112
               clear BK113
               clear BK128
               clear HB
               have BK110 := n0_
               have BK111 := n1_
               have BK112 := n2_
               have BK113 := n3_
               have BK128 := n4_
               have HB := n5_
               clear n0_ n1_ n2_ n3_ n4_ n5_
               (try clear hb)
               (try clear hb2)
               (try clear hk)
               (try clear hi)
               refine hK.out _ _ ⟨(blk_cell BK113.out 0).trans rfl, (blk_cell BK113.out 1).trans rfl, (blk_cell BK113.out 2).trans rfl, (blk_cell BK113.out 3).trans rfl, (blk_cell BK128.out 0).trans rfl, (blk_cell BK128.out 1).trans rfl, (blk_cell BK128.out 2).trans rfl, (blk_cell BK111.out 0).trans rfl, (blk_cell BK111.out 1).trans rfl, (blk_cell BK111.out 2).trans rfl, (blk_cell BK111.out 3).trans rfl⟩ (fun hHeld => ?_)
               clear hK K
               refine norm_ (a' := ?_) ?_ ?_
               rotate_left
               · show Act.put _ (some 67) _ = _
                 simp only [Act.put, List.setIfInBounds_toArray, List.set_cons_zero, List.set_cons_succ, i64_w, i32_w]
                 rfl
               refine one_ (i := 5) (N := some 68) #[true, true, true, true, true, true, false] rfl rfl (by kernel_rfl) (by decide) (fun K hK => ?_)
               refine goes_ Try.func82 (by kernel_rfl) rfl #[.agg #[.int .u64 x114000_1, .int .u64 x114001_1, .int .u64 x114002_1, .int .u64 x114003_1], .agg #[.int .u64 t129, .int .u64 t130, .int .u64 t131, .int .u64 t132]] (by rfl) rfl rfl (by (try simp only [List.map_toArray, List.map_cons, List.map_nil]); first | done | rfl | (simp only [List.length_drop, List.length_take]; rfl)) ?_
               with_reducible refine (pat_places_with.calls x114000_1 x114001_1 x114002_1 x114003_1 t129 t130 t131 t132 t133 t134 t135 t136 _ A102.out).mono ?_
               rintro e w112 ⟨rfl, hb⟩
               refine ⟨_, rfl, ?_⟩
               have n0_ := aM (blk_below (g := gb110) (o := .cells #[.int .i64 a0_0, .slice A0_1 l0_1.length c0_1, .slice (some ad127) l0_2.length c0_2] 25 (0, 0)) (by (with_reducible repeat (first | apply bkN | apply bkD | apply bkA)); exact BK110.out) hb)
               have n1_ := aM (blk_below (g := gb111) (o := .cells #[.int .u64 a2_0, .int .u64 a2_1, .int .u64 a2_2, .int .u64 a2_3] 71 (0, 0)) (by (with_reducible repeat (first | apply bkN | apply bkD | apply bkA)); exact BK111.out) hb)
               have n2_ := aM (blk_below (g := gb112) (o := .cells #[.int .u64 0, .int .u64 0, .int .u64 0, .int .u64 0] 71 (0, 0)) (by (with_reducible repeat (first | apply bkN | apply bkD | apply bkA)); exact BK112.out) hb)
               have n3_ := aM (blk_below (g := gb113) (o := .cells #[.int .u64 x114000_1, .int .u64 x114001_1, .int .u64 x114002_1, .int .u64 x114003_1] 71 (0, 0)) (by (with_reducible repeat (first | apply bkN | apply bkD | apply bkA)); exact BK113.out) hb)
               have n4_ := aM (blk_below (g := gb128) (o := .cells #[.int .i64 ((rd_T25 l0_2 x59_1).f0), .slice A127_1 ((rd_T25 l0_2 x59_1).f1).length c127_1, .slice A127_2 ((rd_T25 l0_2 x59_1).f2).length c127_2] 25 (0, 0)) (by (with_reducible repeat (first | apply bkN | apply bkD | apply bkA)); exact BK128.out) hb)
               have n5_ := aM (below_step (by repeat (first | (with_reducible first | exact HB.out | apply blA | apply blN | apply blD | refine bS ?_ GE110.out | refine bS ?_ GE111.out | refine bS ?_ GE112.out | refine bS ?_ GE113.out | refine bS ?_ GE128.out) | exact HB.out)) hb)
               clear BK110
               clear BK111
               clear BK112
               clear BK113
               clear BK128
               clear HB
               have BK110 := n0_
               have BK111 := n1_
               have BK112 := n2_
               have BK113 := n3_
               have BK128 := n4_
               have HB := n5_
               clear n0_ n1_ n2_ n3_ n4_ n5_
               (try clear hb)
               (try clear hb2)
               (try clear hk)
               (try clear hi)
               refine hK.out _ _ ⟨(blk_cell BK113.out 0).trans rfl, (blk_cell BK113.out 1).trans rfl, (blk_cell BK113.out 2).trans rfl, (blk_cell BK113.out 3).trans rfl, (blk_cell BK128.out 0).trans rfl, (blk_cell BK128.out 1).trans rfl, (blk_cell BK128.out 2).trans rfl, (blk_cell BK111.out 0).trans rfl, (blk_cell BK111.out 1).trans rfl, (blk_cell BK111.out 2).trans rfl, (blk_cell BK111.out 3).trans rfl⟩ (fun hHeld => ?_)
               clear hK K
               refine norm_ (a' := ?_) ?_ ?_
               rotate_left
               · show Act.put _ (some 68) _ = _
                 simp only [Act.put, List.setIfInBounds_toArray, List.set_cons_zero, List.set_cons_succ, i64_w, i32_w]
                 rfl
               refine last_ (i := 6) (N := none) #[true, true, true, true, true, true, true] rfl rfl (by kernel_rfl) (by decide) (fun K hK => ?_)
               have hs113 : w112.cell? ⟨gb113, 0, none⟩ = some (.int .u64 x114000_1) := (blk_cell BK113.out 0).trans rfl
               have hfs113 := bF BK113.out 0
               have hns113_0 := NB110_113.out
               have hns113_1 := NB111_113.out
               have hns113_2 := NB112_113.out
               have hns113_4 := NB128_113.out
               have hms113_0 := NB113_110.out
               have hms113_1 := NB113_111.out
               have hms113_2 := NB113_112.out
               have hms113_4 := NB113_128.out
               have hs114 : w112.cell? ⟨gb113, 1, none⟩ = some (.int .u64 x114001_1) := (blk_cell BK113.out 1).trans rfl
               have hfs114 := bF BK113.out 1
               have hns114_0 := NB110_113.out
               have hns114_1 := NB111_113.out
               have hns114_2 := NB112_113.out
               have hns114_4 := NB128_113.out
               have hms114_0 := NB113_110.out
               have hms114_1 := NB113_111.out
               have hms114_2 := NB113_112.out
               have hms114_4 := NB113_128.out
               have hs115 : w112.cell? ⟨gb113, 2, none⟩ = some (.int .u64 x114002_1) := (blk_cell BK113.out 2).trans rfl
               have hfs115 := bF BK113.out 2
               have hns115_0 := NB110_113.out
               have hns115_1 := NB111_113.out
               have hns115_2 := NB112_113.out
               have hns115_4 := NB128_113.out
               have hms115_0 := NB113_110.out
               have hms115_1 := NB113_111.out
               have hms115_2 := NB113_112.out
               have hms115_4 := NB113_128.out
               have hs116 : w112.cell? ⟨gb113, 3, none⟩ = some (.int .u64 x114003_1) := (blk_cell BK113.out 3).trans rfl
               have hfs116 := bF BK113.out 3
               have hns116_0 := NB110_113.out
               have hns116_1 := NB111_113.out
               have hns116_2 := NB112_113.out
               have hns116_4 := NB128_113.out
               have hms116_0 := NB113_110.out
               have hms116_1 := NB113_111.out
               have hms116_2 := NB113_112.out
               have hms116_4 := NB113_128.out
               refine skip_ (w1 := ?_) (by rfl) rfl ?_ ?_
               rotate_left
               · go_simp
                 rfl
               refine hK.out _ _ ?_
               clear hK K
               refine done_ (by kernel_rfl) ?_
               try go_wp2
               repeat (go_step3; try go_wp2_with (fail))
               go_roundg k1
               case measure => have := HK1.out; omega
               case rel => exact ⟨(wrap64 (x59_1 + 1)), (t133), (t134), (t135), (t136), (by first | rfl | (simp; done) | (simp [*]; done)), H', ⟨by have := HK1.out; omega⟩, ⟨by (with_reducible repeat (first | apply bkN | apply bkD | apply bkA)); refine blk_far ?_ NB110_113.out _; (with_reducible repeat (first | apply bkN | apply bkD | apply bkA)); refine blk_far ?_ NB110_113.out _; (with_reducible repeat (first | apply bkN | apply bkD | apply bkA)); refine blk_far ?_ NB110_113.out _; (with_reducible repeat (first | apply bkN | apply bkD | apply bkA)); refine blk_far ?_ NB110_113.out _; (with_reducible repeat (first | apply bkN | apply bkD | apply bkA)); exact BK110.out⟩, ⟨by (with_reducible repeat (first | apply bkN | apply bkD | apply bkA)); refine blk_far ?_ NB111_113.out _; (with_reducible repeat (first | apply bkN | apply bkD | apply bkA)); refine blk_far ?_ NB111_113.out _; (with_reducible repeat (first | apply bkN | apply bkD | apply bkA)); refine blk_far ?_ NB111_113.out _; (with_reducible repeat (first | apply bkN | apply bkD | apply bkA)); refine blk_far ?_ NB111_113.out _; (with_reducible repeat (first | apply bkN | apply bkD | apply bkA)); exact BK111.out⟩, ⟨by (with_reducible repeat (first | apply bkN | apply bkD | apply bkA)); refine blk_far ?_ NB112_113.out _; (with_reducible repeat (first | apply bkN | apply bkD | apply bkA)); refine blk_far ?_ NB112_113.out _; (with_reducible repeat (first | apply bkN | apply bkD | apply bkA)); refine blk_far ?_ NB112_113.out _; (with_reducible repeat (first | apply bkN | apply bkD | apply bkA)); refine blk_far ?_ NB112_113.out _; (with_reducible repeat (first | apply bkN | apply bkD | apply bkA)); exact BK112.out⟩, ⟨by (with_reducible repeat (first | apply bkN | apply bkD | apply bkA)); refine blk_put (cs := #[.int .u64 t133, .int .u64 t134, .int .u64 t135, .int .u64 x114003_1]) ?_ 3 _ rfl; (with_reducible repeat (first | apply bkN | apply bkD | apply bkA)); refine blk_put (cs := #[.int .u64 t133, .int .u64 t134, .int .u64 x114002_1, .int .u64 x114003_1]) ?_ 2 _ rfl; (with_reducible repeat (first | apply bkN | apply bkD | apply bkA)); refine blk_put (cs := #[.int .u64 t133, .int .u64 x114001_1, .int .u64 x114002_1, .int .u64 x114003_1]) ?_ 1 _ rfl; (with_reducible repeat (first | apply bkN | apply bkD | apply bkA)); refine blk_put (cs := #[.int .u64 x114000_1, .int .u64 x114001_1, .int .u64 x114002_1, .int .u64 x114003_1]) ?_ 0 _ rfl; (with_reducible repeat (first | apply bkN | apply bkD | apply bkA)); exact BK113.out⟩, ⟨by repeat (first | (with_reducible first | exact HB.out | apply blA | apply blN | apply blD | refine bS ?_ GE110.out | refine bS ?_ GE111.out | refine bS ?_ GE112.out | refine bS ?_ GE113.out | refine bS ?_ GE128.out) | exact HB.out)⟩⟩
             · rw [if_neg c100] at H
               exact absurd H (by simp)
           · rw [if_neg c99] at H
             exact absurd H (by simp)
         · rw [if_neg c98] at H
           have c98b0 : decide (x59_1 < (l0_2.length : Int)) = false := decide_eq_false c98
           clear c98
           simp only [Option.some.injEq, Prod.mk.injEq] at H
           obtain ⟨rfl, rfl, rfl, rfl⟩ := H
           have hnb117 := NB113_110.out
           have hnc117 := NB110_113.out
           have hnb118 := NB113_111.out
           have hnc118 := NB111_113.out
           have hnb119 := NB113_112.out
           have hnc119 := NB112_113.out
           have hcz120_0 : wr.cell? ⟨gb113, 0, none⟩ = some (.int .u64 x114000_1) := (blk_cell BK113.out 0).trans rfl
           have hcz120_1 : wr.cell? ⟨gb113, 1, none⟩ = some (.int .u64 x114001_1) := (blk_cell BK113.out 1).trans rfl
           have hcz120_2 : wr.cell? ⟨gb113, 2, none⟩ = some (.int .u64 x114002_1) := (blk_cell BK113.out 2).trans rfl
           have hcz120_3 : wr.cell? ⟨gb113, 3, none⟩ = some (.int .u64 x114003_1) := (blk_cell BK113.out 3).trans rfl
           have hfz120_0 := bF BK113.out 0
           have hfz120_1 := bF BK113.out 1
           have hfz120_2 := bF BK113.out 2
           have hfz120_3 := bF BK113.out 3
           have hnb121 := NB112_110.out
           have hnc121 := NB110_112.out
           have hnb122 := NB112_111.out
           have hnc122 := NB111_112.out
           have hcz123_0 : wr.cell? ⟨gb112, 0, none⟩ = some (.int .u64 0) := (blk_cell BK112.out 0).trans rfl
           have hcz123_1 : wr.cell? ⟨gb112, 1, none⟩ = some (.int .u64 0) := (blk_cell BK112.out 1).trans rfl
           have hcz123_2 : wr.cell? ⟨gb112, 2, none⟩ = some (.int .u64 0) := (blk_cell BK112.out 2).trans rfl
           have hcz123_3 : wr.cell? ⟨gb112, 3, none⟩ = some (.int .u64 0) := (blk_cell BK112.out 3).trans rfl
           have hfz123_0 := bF BK112.out 0
           have hfz123_1 := bF BK112.out 1
           have hfz123_2 := bF BK112.out 2
           have hfz123_3 := bF BK112.out 3
           go_wp2
           repeat (go_step3; try go_wp2_with (fail))
           refine bodyPost_ret (results_cell_row rfl _ _ gb112 71 #[.int .u64 x114000_1, .int .u64 x114001_1, .int .u64 x114002_1, .int .u64 x114003_1] (0, 0) _ rfl (by (with_reducible repeat (first | apply bkN | apply bkD | apply bkA)); refine blk_put (cs := #[.int .u64 x114000_1, .int .u64 x114001_1, .int .u64 x114002_1, .int .u64 0]) ?_ 3 _ rfl; (with_reducible repeat (first | apply bkN | apply bkD | apply bkA)); refine blk_put (cs := #[.int .u64 x114000_1, .int .u64 x114001_1, .int .u64 0, .int .u64 0]) ?_ 2 _ rfl; (with_reducible repeat (first | apply bkN | apply bkD | apply bkA)); refine blk_put (cs := #[.int .u64 x114000_1, .int .u64 0, .int .u64 0, .int .u64 0]) ?_ 1 _ rfl; (with_reducible repeat (first | apply bkN | apply bkD | apply bkA)); refine blk_put (cs := #[.int .u64 0, .int .u64 0, .int .u64 0, .int .u64 0]) ?_ 0 _ rfl; (with_reducible repeat (first | apply bkN | apply bkD | apply bkA)); exact BK112.out) Try.underlying71 rfl (by kernel_rfl)) rfl ?_
           exact ⟨by first | rfl | (simp [errW_none, errW_some] <;> rfl) | (simp [*, errW_none, errW_some] <;> rfl), by repeat (first | (with_reducible first | exact HB.out | apply blA | apply blN | apply blD | refine bS ?_ GE110.out | refine bS ?_ GE111.out | refine bS ?_ GE112.out | refine bS ?_ GE113.out) | exact HB.out)⟩
     · rw [if_neg c89] at H
       have c89b0 : (a0_0 == 3) = false := beq_eq_false_iff_ne.mpr c89
       have c89b1 : (a0_0 != 3) = true := bne_iff_ne.mpr c89
       by_cases c124 : a0_0 = 4
       · rw [if_pos c124] at H
         have c124b0 : (a0_0 == 4) = true := beq_iff_eq.mpr c124
         have c124b1 : (a0_0 != 4) = false := bne_eq_false_iff_eq.mpr c124
         clear c124
         have H' := aM H
         clear H
         go_enter Try.func46, Try.ntmps46
         go_wp2_with (first | ((with_reducible refine gate_dst (N := 3) rfl ?_); refine box_event ?hg (N := 3) ?hd (cs := #[.int .i64 a0_0, .slice A0_1 l0_1.length c0_1, .slice A0_2 l0_2.length c0_2]) (t := 25) ?hr ?_; (case hd => rfl); (case hg => rfl); (case hr => first | (go_simp; done) | (go_simp; rfl)); intro gb110 hg w125 hbox hb; have n0_ := aM (below_step (by repeat (first | (with_reducible first | exact HB.out | apply blA | apply blN | apply blD) | exact HB.out)) hb); have n1_ := aM (hbox); have n2_ := aM ((by rw [hg]; exact (below_size (by repeat (first | (with_reducible first | exact HB.out | apply blA | apply blN | apply blD) | exact HB.out))) : w.heap.size ≤ gb110)); have n3_ := aM ((by rw [hg]; exact (below_size (by repeat (first | (with_reducible first | exact HB.out | apply blA | apply blN | apply blD) | exact HB.out))) : w.heap.size ≤ gb110)); clear HB; have HB := n0_; have BK110 := n1_; have GW110 := n2_; have GE110 := n3_; clear n0_ n1_ n2_ n3_; clear hb hbox hg) | ((with_reducible refine gate_dst (N := 5) rfl ?_); refine box_event ?hg (N := 5) ?hd (cs := #[.int .u64 a2_0, .int .u64 a2_1, .int .u64 a2_2, .int .u64 a2_3]) (t := 71) ?hr ?_; (case hd => rfl); (case hg => rfl); (case hr => first | (go_simp; done) | (go_simp; rfl)); intro gb111 hg w126 hbox hb; have n0_ := aM (blk_below (g := gb110) (o := .cells #[.int .i64 a0_0, .slice A0_1 l0_1.length c0_1, .slice A0_2 l0_2.length c0_2] 25 (0, 0)) (by (with_reducible repeat (first | apply bkN | apply bkD | apply bkA)); exact BK110.out) hb); have n1_ := aM (below_step (by repeat (first | (with_reducible first | exact HB.out | apply blA | apply blN | apply blD | refine bS ?_ GE110.out) | exact HB.out)) hb); have n2_ := aM (hbox); have n3_ := aM ((by rw [hg]; exact (below_size (by repeat (first | (with_reducible first | exact HB.out | apply blA | apply blN | apply blD | refine bS ?_ GE110.out) | exact HB.out))) : w.heap.size ≤ gb111)); have n4_ := aM ((by rw [hg]; exact (below_size (by repeat (first | (with_reducible first | exact HB.out | apply blA | apply blN | apply blD | refine bS ?_ GE110.out) | exact HB.out))) : w.heap.size ≤ gb111)); have n5_ := aM ((by rw [hg]; exact Nat.ne_of_lt (blk_lt (g := gb110) (o := .cells #[.int .i64 a0_0, .slice A0_1 l0_1.length c0_1, .slice A0_2 l0_2.length c0_2] 25 (0, 0)) (by (with_reducible repeat (first | apply bkN | apply bkD | apply bkA)); exact BK110.out)) : gb110 ≠ gb111)); have n6_ := aM ((by rw [hg]; exact Nat.ne_of_gt (blk_lt (g := gb110) (o := .cells #[.int .i64 a0_0, .slice A0_1 l0_1.length c0_1, .slice A0_2 l0_2.length c0_2] 25 (0, 0)) (by (with_reducible repeat (first | apply bkN | apply bkD | apply bkA)); exact BK110.out)) : gb111 ≠ gb110)); clear BK110; clear HB; have BK110 := n0_; have HB := n1_; have BK111 := n2_; have GW111 := n3_; have GE111 := n4_; have NB110_111 := n5_; have NB111_110 := n6_; clear n0_ n1_ n2_ n3_ n4_ n5_ n6_; clear hb hbox hg) | ((with_reducible refine gate_dst (N := 6) rfl ?_); refine box_event ?hg (N := 6) ?hd (cs := #[.int .u64 0, .int .u64 0, .int .u64 0, .int .u64 0]) (t := 71) ?hr ?_; (case hd => rfl); (case hg => rfl); (case hr => first | (go_simp; done) | (go_simp; rfl)); intro gb112 hg w127 hbox hb; have n0_ := aM (blk_below (g := gb110) (o := .cells #[.int .i64 a0_0, .slice A0_1 l0_1.length c0_1, .slice A0_2 l0_2.length c0_2] 25 (0, 0)) (by (with_reducible repeat (first | apply bkN | apply bkD | apply bkA)); exact BK110.out) hb); have n1_ := aM (blk_below (g := gb111) (o := .cells #[.int .u64 a2_0, .int .u64 a2_1, .int .u64 a2_2, .int .u64 a2_3] 71 (0, 0)) (by (with_reducible repeat (first | apply bkN | apply bkD | apply bkA)); exact BK111.out) hb); have n2_ := aM (below_step (by repeat (first | (with_reducible first | exact HB.out | apply blA | apply blN | apply blD | refine bS ?_ GE110.out | refine bS ?_ GE111.out) | exact HB.out)) hb); have n3_ := aM (hbox); have n4_ := aM ((by rw [hg]; exact (below_size (by repeat (first | (with_reducible first | exact HB.out | apply blA | apply blN | apply blD | refine bS ?_ GE110.out | refine bS ?_ GE111.out) | exact HB.out))) : w.heap.size ≤ gb112)); have n5_ := aM ((by rw [hg]; exact (below_size (by repeat (first | (with_reducible first | exact HB.out | apply blA | apply blN | apply blD | refine bS ?_ GE110.out | refine bS ?_ GE111.out) | exact HB.out))) : w.heap.size ≤ gb112)); have n6_ := aM ((by rw [hg]; exact Nat.ne_of_lt (blk_lt (g := gb110) (o := .cells #[.int .i64 a0_0, .slice A0_1 l0_1.length c0_1, .slice A0_2 l0_2.length c0_2] 25 (0, 0)) (by (with_reducible repeat (first | apply bkN | apply bkD | apply bkA)); exact BK110.out)) : gb110 ≠ gb112)); have n7_ := aM ((by rw [hg]; exact Nat.ne_of_gt (blk_lt (g := gb110) (o := .cells #[.int .i64 a0_0, .slice A0_1 l0_1.length c0_1, .slice A0_2 l0_2.length c0_2] 25 (0, 0)) (by (with_reducible repeat (first | apply bkN | apply bkD | apply bkA)); exact BK110.out)) : gb112 ≠ gb110)); have n8_ := aM ((by rw [hg]; exact Nat.ne_of_lt (blk_lt (g := gb111) (o := .cells #[.int .u64 a2_0, .int .u64 a2_1, .int .u64 a2_2, .int .u64 a2_3] 71 (0, 0)) (by (with_reducible repeat (first | apply bkN | apply bkD | apply bkA)); exact BK111.out)) : gb111 ≠ gb112)); have n9_ := aM ((by rw [hg]; exact Nat.ne_of_gt (blk_lt (g := gb111) (o := .cells #[.int .u64 a2_0, .int .u64 a2_1, .int .u64 a2_2, .int .u64 a2_3] 71 (0, 0)) (by (with_reducible repeat (first | apply bkN | apply bkD | apply bkA)); exact BK111.out)) : gb112 ≠ gb111)); clear BK110; clear BK111; clear HB; have BK110 := n0_; have BK111 := n1_; have HB := n2_; have BK112 := n3_; have GW112 := n4_; have GE112 := n5_; have NB110_112 := n6_; have NB112_110 := n7_; have NB111_112 := n8_; have NB112_111 := n9_; clear n0_ n1_ n2_ n3_ n4_ n5_ n6_ n7_ n8_ n9_; clear hb hbox hg) | ((with_reducible refine gate_dst (N := 7) rfl ?_); refine box_event ?hg (N := 7) ?hd (cs := #[.int .u64 0, .int .u64 0, .int .u64 0, .int .u64 0]) (t := 71) ?hr ?_; (case hd => rfl); (case hg => rfl); (case hr => first | (go_simp; done) | (go_simp; rfl)); intro gb113 hg w128 hbox hb; have n0_ := aM (blk_below (g := gb110) (o := .cells #[.int .i64 a0_0, .slice A0_1 l0_1.length c0_1, .slice A0_2 l0_2.length c0_2] 25 (0, 0)) (by (with_reducible repeat (first | apply bkN | apply bkD | apply bkA)); exact BK110.out) hb); have n1_ := aM (blk_below (g := gb111) (o := .cells #[.int .u64 a2_0, .int .u64 a2_1, .int .u64 a2_2, .int .u64 a2_3] 71 (0, 0)) (by (with_reducible repeat (first | apply bkN | apply bkD | apply bkA)); exact BK111.out) hb); have n2_ := aM (blk_below (g := gb112) (o := .cells #[.int .u64 0, .int .u64 0, .int .u64 0, .int .u64 0] 71 (0, 0)) (by (with_reducible repeat (first | apply bkN | apply bkD | apply bkA)); exact BK112.out) hb); have n3_ := aM (below_step (by repeat (first | (with_reducible first | exact HB.out | apply blA | apply blN | apply blD | refine bS ?_ GE110.out | refine bS ?_ GE111.out | refine bS ?_ GE112.out) | exact HB.out)) hb); have n4_ := aM (hbox); have n5_ := aM ((by rw [hg]; exact (below_size (by repeat (first | (with_reducible first | exact HB.out | apply blA | apply blN | apply blD | refine bS ?_ GE110.out | refine bS ?_ GE111.out | refine bS ?_ GE112.out) | exact HB.out))) : w.heap.size ≤ gb113)); have n6_ := aM ((by rw [hg]; exact (below_size (by repeat (first | (with_reducible first | exact HB.out | apply blA | apply blN | apply blD | refine bS ?_ GE110.out | refine bS ?_ GE111.out | refine bS ?_ GE112.out) | exact HB.out))) : w.heap.size ≤ gb113)); have n7_ := aM ((by rw [hg]; exact Nat.ne_of_lt (blk_lt (g := gb110) (o := .cells #[.int .i64 a0_0, .slice A0_1 l0_1.length c0_1, .slice A0_2 l0_2.length c0_2] 25 (0, 0)) (by (with_reducible repeat (first | apply bkN | apply bkD | apply bkA)); exact BK110.out)) : gb110 ≠ gb113)); have n8_ := aM ((by rw [hg]; exact Nat.ne_of_gt (blk_lt (g := gb110) (o := .cells #[.int .i64 a0_0, .slice A0_1 l0_1.length c0_1, .slice A0_2 l0_2.length c0_2] 25 (0, 0)) (by (with_reducible repeat (first | apply bkN | apply bkD | apply bkA)); exact BK110.out)) : gb113 ≠ gb110)); have n9_ := aM ((by rw [hg]; exact Nat.ne_of_lt (blk_lt (g := gb111) (o := .cells #[.int .u64 a2_0, .int .u64 a2_1, .int .u64 a2_2, .int .u64 a2_3] 71 (0, 0)) (by (with_reducible repeat (first | apply bkN | apply bkD | apply bkA)); exact BK111.out)) : gb111 ≠ gb113)); have n10_ := aM ((by rw [hg]; exact Nat.ne_of_gt (blk_lt (g := gb111) (o := .cells #[.int .u64 a2_0, .int .u64 a2_1, .int .u64 a2_2, .int .u64 a2_3] 71 (0, 0)) (by (with_reducible repeat (first | apply bkN | apply bkD | apply bkA)); exact BK111.out)) : gb113 ≠ gb111)); have n11_ := aM ((by rw [hg]; exact Nat.ne_of_lt (blk_lt (g := gb112) (o := .cells #[.int .u64 0, .int .u64 0, .int .u64 0, .int .u64 0] 71 (0, 0)) (by (with_reducible repeat (first | apply bkN | apply bkD | apply bkA)); exact BK112.out)) : gb112 ≠ gb113)); have n12_ := aM ((by rw [hg]; exact Nat.ne_of_gt (blk_lt (g := gb112) (o := .cells #[.int .u64 0, .int .u64 0, .int .u64 0, .int .u64 0] 71 (0, 0)) (by (with_reducible repeat (first | apply bkN | apply bkD | apply bkA)); exact BK112.out)) : gb113 ≠ gb112)); clear BK110; clear BK111; clear BK112; clear HB; have BK110 := n0_; have BK111 := n1_; have BK112 := n2_; have HB := n3_; have BK113 := n4_; have GW113 := n5_; have GE113 := n6_; have NB110_113 := n7_; have NB113_110 := n8_; have NB111_113 := n9_; have NB113_111 := n10_; have NB112_113 := n11_; have NB113_112 := n12_; clear n0_ n1_ n2_ n3_ n4_ n5_ n6_ n7_ n8_ n9_ n10_ n11_ n12_; clear hb hbox hg; have hnb129 := NB110_111.out; have hnc129 := NB111_110.out; have hnb130 := NB110_112.out; have hnc130 := NB112_110.out; have hnb131 := NB110_113.out; have hnc131 := NB113_110.out; have hcz132_0 : w128.cell? ⟨gb110, 0, none⟩ = some (.int .i64 a0_0) := (blk_cell BK110.out 0).trans rfl; have hcz132_1 : w128.cell? ⟨gb110, 1, none⟩ = some (.slice A0_1 l0_1.length c0_1) := (blk_cell BK110.out 1).trans rfl; have hcz132_2 : w128.cell? ⟨gb110, 2, none⟩ = some (.slice A0_2 l0_2.length c0_2) := (blk_cell BK110.out 2).trans rfl; have hfz132_0 := bF BK110.out 0; have hfz132_1 := bF BK110.out 1; have hfz132_2 := bF BK110.out 2; have hnb133 := NB111_112.out; have hnc133 := NB112_111.out; have hnb134 := NB111_113.out; have hnc134 := NB113_111.out; have hcz135_0 : w128.cell? ⟨gb111, 0, none⟩ = some (.int .u64 a2_0) := (blk_cell BK111.out 0).trans rfl; have hcz135_1 : w128.cell? ⟨gb111, 1, none⟩ = some (.int .u64 a2_1) := (blk_cell BK111.out 1).trans rfl; have hcz135_2 : w128.cell? ⟨gb111, 2, none⟩ = some (.int .u64 a2_2) := (blk_cell BK111.out 2).trans rfl; have hcz135_3 : w128.cell? ⟨gb111, 3, none⟩ = some (.int .u64 a2_3) := (blk_cell BK111.out 3).trans rfl; have hfz135_0 := bF BK111.out 0; have hfz135_1 := bF BK111.out 1; have hfz135_2 := bF BK111.out 2; have hfz135_3 := bF BK111.out 3; have hnb136 := NB113_112.out; have hnc136 := NB112_113.out; have hcz137_0 : w128.cell? ⟨gb113, 0, none⟩ = some (.int .u64 0) := (blk_cell BK113.out 0).trans rfl; have hcz137_1 : w128.cell? ⟨gb113, 1, none⟩ = some (.int .u64 0) := (blk_cell BK113.out 1).trans rfl; have hcz137_2 : w128.cell? ⟨gb113, 2, none⟩ = some (.int .u64 0) := (blk_cell BK113.out 2).trans rfl; have hcz137_3 : w128.cell? ⟨gb113, 3, none⟩ = some (.int .u64 0) := (blk_cell BK113.out 3).trans rfl; have hfz137_0 := bF BK113.out 0; have hfz137_1 := bF BK113.out 1; have hfz137_2 := bF BK113.out 2; have hfz137_3 := bF BK113.out 3))
         repeat (go_step3; try go_wp2_with (fail))
         go_loopg [] k (fun kq w' => ∃ (x114000_1 : Int) (x114001_1 : Int) (x114002_1 : Int) (x114003_1 : Int), Aside0 (pat_ends.l3 kq l1 a0_0 l0_1 l0_2 x114000_1 x114001_1 x114002_1 x114003_1 = some (r1, r2, r3, r4)) ∧ Aside0 (kq ≤ k) ∧ Aside0 (w'.heap[gb110]? = some (.cells #[.int .i64 a0_0, (.slice A0_1 l0_1.length c0_1), (.slice A0_2 l0_2.length c0_2)] 25 (0, 0))) ∧ Aside0 (w'.heap[gb111]? = some (.cells #[.int .u64 a2_0, .int .u64 a2_1, .int .u64 a2_2, .int .u64 a2_3] 71 (0, 0))) ∧ Aside0 (w'.heap[gb112]? = some (.cells #[.int .u64 0, .int .u64 0, .int .u64 0, .int .u64 0] 71 (0, 0))) ∧ Aside0 (w'.heap[gb113]? = some (.cells #[.int .u64 x114000_1, .int .u64 x114001_1, .int .u64 x114002_1, .int .u64 x114003_1] 71 (0, 0))) ∧ Aside0 (Below w.heap.size w w'))
         case atStart => exact ⟨(a2_0), (a2_1), (a2_2), (a2_3), H', ⟨Nat.le_refl _⟩, ⟨by (with_reducible repeat (first | apply bkN | apply bkD | apply bkA)); refine blk_far ?_ NB110_113.out _; (with_reducible repeat (first | apply bkN | apply bkD | apply bkA)); refine blk_far ?_ NB110_113.out _; (with_reducible repeat (first | apply bkN | apply bkD | apply bkA)); refine blk_far ?_ NB110_113.out _; (with_reducible repeat (first | apply bkN | apply bkD | apply bkA)); refine blk_far ?_ NB110_113.out _; (with_reducible repeat (first | apply bkN | apply bkD | apply bkA)); exact BK110.out⟩, ⟨by (with_reducible repeat (first | apply bkN | apply bkD | apply bkA)); refine blk_far ?_ NB111_113.out _; (with_reducible repeat (first | apply bkN | apply bkD | apply bkA)); refine blk_far ?_ NB111_113.out _; (with_reducible repeat (first | apply bkN | apply bkD | apply bkA)); refine blk_far ?_ NB111_113.out _; (with_reducible repeat (first | apply bkN | apply bkD | apply bkA)); refine blk_far ?_ NB111_113.out _; (with_reducible repeat (first | apply bkN | apply bkD | apply bkA)); exact BK111.out⟩, ⟨by (with_reducible repeat (first | apply bkN | apply bkD | apply bkA)); refine blk_far ?_ NB112_113.out _; (with_reducible repeat (first | apply bkN | apply bkD | apply bkA)); refine blk_far ?_ NB112_113.out _; (with_reducible repeat (first | apply bkN | apply bkD | apply bkA)); refine blk_far ?_ NB112_113.out _; (with_reducible repeat (first | apply bkN | apply bkD | apply bkA)); refine blk_far ?_ NB112_113.out _; (with_reducible repeat (first | apply bkN | apply bkD | apply bkA)); exact BK112.out⟩, ⟨by (with_reducible repeat (first | apply bkN | apply bkD | apply bkA)); refine blk_put (cs := #[.int .u64 a2_0, .int .u64 a2_1, .int .u64 a2_2, .int .u64 0]) ?_ 3 _ rfl; (with_reducible repeat (first | apply bkN | apply bkD | apply bkA)); refine blk_put (cs := #[.int .u64 a2_0, .int .u64 a2_1, .int .u64 0, .int .u64 0]) ?_ 2 _ rfl; (with_reducible repeat (first | apply bkN | apply bkD | apply bkA)); refine blk_put (cs := #[.int .u64 a2_0, .int .u64 0, .int .u64 0, .int .u64 0]) ?_ 1 _ rfl; (with_reducible repeat (first | apply bkN | apply bkD | apply bkA)); refine blk_put (cs := #[.int .u64 0, .int .u64 0, .int .u64 0, .int .u64 0]) ?_ 0 _ rfl; (with_reducible repeat (first | apply bkN | apply bkD | apply bkA)); exact BK113.out⟩, ⟨by repeat (first | (with_reducible first | exact HB.out | apply blA | apply blN | apply blD | refine bS ?_ GE110.out | refine bS ?_ GE111.out | refine bS ?_ GE112.out | refine bS ?_ GE113.out) | exact HB.out)⟩⟩
         case round =>
          clear H'
          obtain ⟨x114000_1, x114001_1, x114002_1, x114003_1, HA, HK1, BK110, BK111, BK112, BK113, HB⟩ := hrel
          cases gk with
          | zero => exact absurd HA.out (by simp [pat_ends.l3])
          | succ k1 =>
           have H := HA.out
           clear HA
           simp only [pat_ends.l3] at H
           by_cases c138 : 0 < (l0_2.length : Int)
           · rw [if_pos c138] at H
             have c138b0 : decide (0 < (l0_2.length : Int)) = true := decide_eq_true c138
             have c138b1 : decide (0 < l0_2.length) = true := decide_eq_true (by omega)
             clear c138
             replace H := Option.bind_eq_some_iff.mp H
             obtain ⟨⟨t138, t139, t140, t141⟩, A1390, H⟩ := H
             replace H : ((pat_places_with.f x114000_1 x114001_1 x114002_1 x114003_1 t138 t139 t140 t141).bind fun bt142 => (if (bt142.1 == x114000_1 && (bt142.2.1 == x114001_1 && (bt142.2.2.1 == x114002_1 && (bt142.2.2.2 == x114003_1)))) = true then (some (x114000_1, x114001_1, x114002_1, x114003_1)) else (pat_ends.l3 k1 l1 a0_0 l0_1 l0_2 bt142.1 bt142.2.1 bt142.2.2.1 bt142.2.2.2))) = some (r1, r2, r3, r4) := H
             have A139 := aM A1390
             clear A1390
             replace H := Option.bind_eq_some_iff.mp H
             obtain ⟨⟨t142, t143, t144, t145⟩, A1400, H⟩ := H
             replace H : (if (t142 == x114000_1 && (t143 == x114001_1 && (t144 == x114002_1 && (t145 == x114003_1)))) = true then (some (x114000_1, x114001_1, x114002_1, x114003_1)) else (pat_ends.l3 k1 l1 a0_0 l0_1 l0_2 t142 t143 t144 t145)) = some (r1, r2, r3, r4) := H
             have A140 := aM A1400
             clear A1400
             by_cases c141 : (t142 == x114000_1 && (t143 == x114001_1 && (t144 == x114002_1 && (t145 == x114003_1)))) = true
             · rw [if_pos c141] at H
               have c141b0 : (t142 == x114000_1 && (t143 == x114001_1 && (t144 == x114002_1 && (t145 == x114003_1)))) = true := c141
               (try (have c141b1 : decide (t142 = x114000_1 && (t143 == x114001_1 && (t144 == x114002_1 && (t145 == x114003_1)))) = true := by simpa using c141))
               (try (have c141b2 : (t142 == x114000_1 && (t143 == x114001_1 && (t144 == x114002_1 && (t145 == x114003_1)))) = true := by simpa using c141))
               clear c141
               simp only [Option.some.injEq, Prod.mk.injEq] at H
               obtain ⟨rfl, rfl, rfl, rfl⟩ := H
               try go_wp2
               repeat (go_step3; try go_wp2_with (fail))
               have n0_ := aM (blk_drew BK110.out)
               have n1_ := aM (blk_drew BK111.out)
               have n2_ := aM (blk_drew BK112.out)
               have n3_ := aM (blk_drew BK113.out)
               have n4_ := aM (below_drew1 HB.out)
               clear BK110
               clear BK111
               clear BK112
               clear BK113
               clear HB
               have BK110 := n0_
               have BK111 := n1_
               have BK112 := n2_
               have BK113 := n3_
               have HB := n4_
               clear n0_ n1_ n2_ n3_ n4_
               have p137 : 0 ≤ (0 : Int) := (by omega)
               have q137 : 0 < (l0_2.length : Int) := of_decide_eq_true (by first | (with_reducible assumption) | assumption)
               obtain ⟨ad137, A137_1, c137_1, A137_2, c137_2, e137, hx137_0, hx137_1, hx137_2, hl137_1, hi137_1, hl137_2, hi137_2⟩ := at_T25 HR0_2.out 0 p137 q137
               have hw137_2 := hx137_2
               (try rw [show ((0 : Int)).toNat = 0 from rfl] at hw137_2)
               (try rw [show 0 * 3 = 0 from rfl] at hw137_2)
               (try rw [Addr.add_zero'] at hw137_2)
               have hw137_1 := hx137_1
               (try rw [show ((0 : Int)).toNat = 0 from rfl] at hw137_1)
               (try rw [show 0 * 3 = 0 from rfl] at hw137_1)
               (try rw [Addr.add_zero'] at hw137_1)
               have hw137_0 := hx137_0
               (try rw [show ((0 : Int)).toNat = 0 from rfl] at hw137_0)
               (try rw [show 0 * 3 = 0 from rfl] at hw137_0)
               (try rw [Addr.add_zero'] at hw137_0)
               cases e137
               have qi137 : (0 < l0_2.length) = True := eq_true (by omega)
               (try rw [show ((0 : Int)).toNat = 0 from rfl] at hx137_0)
               (try rw [show 0 * 3 = 0 from rfl] at hx137_0)
               (try rw [Addr.add_zero'] at hx137_0)
               (try rw [show ((0 : Int)).toNat = 0 from rfl] at hx137_1)
               (try rw [show 0 * 3 = 0 from rfl] at hx137_1)
               (try rw [Addr.add_zero'] at hx137_1)
               (try rw [show ((0 : Int)).toNat = 0 from rfl] at hx137_2)
               (try rw [show 0 * 3 = 0 from rfl] at hx137_2)
               (try rw [Addr.add_zero'] at hx137_2)
               replace hx137_0 := (HB.out.cell (World.block_lt_of_cell? w _ hx137_0)).trans hx137_0
               replace hx137_1 := (HB.out.cell (World.block_lt_of_cell? w _ hx137_1)).trans hx137_1
               replace hx137_2 := (HB.out.cell (World.block_lt_of_cell? w _ hx137_2)).trans hx137_2
               have HR137_1 := aM hi137_1
               have HC137_1 := aM hl137_1
               clear hi137_1 hl137_1
               have HR137_2 := aM hi137_2
               have HC137_2 := aM hl137_2
               clear hi137_2 hl137_2
               replace p137 := eq_true p137
               replace q137 := eq_true q137
               refine start_ (n := 11) (S := fun w' => True) (ds := []) #[false, false, false, false, false, false, false, false, false, false, false] (by kernel_rfl) rfl rfl trivial (fun hHeld => ?_); refine with_tabW pat_ends.tab25 pat_ends.bits25 (fun HT_ HW_ => ?_)
               generalize wr.drew = w142 at BK110 BK111 BK112 BK113 HB HR137_1 HR137_2 hx137_0 hx137_1 hx137_2 hHeld ⊢
               refine pure_ (i := 1) (N := some 74) (v := ?_) (a' := ?_) #[false, true, false, false, false, false, false, false, false, false, false] rfl rfl (any_of HT_.out (by kernel_rfl)) (fun _ _ _ h => h) (Or.inl ⟨by rfl, ?_⟩) ?_ ?_
               rotate_left
               · intro w'
                 go_simp
                 with_reducible rfl
               rotate_left
               · simp only [Act.put, List.setIfInBounds_toArray, List.set_cons_zero, List.set_cons_succ, i64_w, i32_w]
                 rfl
               refine pure_ (i := 5) (N := some 78) (v := ?_) (a' := ?_) #[false, true, false, false, false, true, false, false, false, false, false] rfl rfl (any_of HT_.out (by kernel_rfl)) (fun _ _ _ h => h) (Or.inl ⟨by rfl, ?_⟩) ?_ ?_
               rotate_left
               · intro w'
                 go_simp
                 with_reducible rfl
               rotate_left
               · simp only [Act.put, List.setIfInBounds_toArray, List.set_cons_zero, List.set_cons_succ, i64_w, i32_w]
                 rfl
               refine inv_at [0, 2, 3, 4, 6, 7, 8, 9, 10] (fun a0_ b a w' => ∃ (gb146 : Nat) (m9_ : Value), a = putSel a0_ b [(0, 73, .agg #[.int .u64 x114000_1, .int .u64 x114001_1, .int .u64 x114002_1, .int .u64 x114003_1]), (2, 75, .slice (some ad137) l0_2.length c0_2), (3, 76, .pointer (some ad137)), (4, 77, .agg #[.int .i64 ((rd_T25 l0_2 0).f0), .slice A137_1 ((rd_T25 l0_2 0).f1).length c137_1, .slice A137_2 ((rd_T25 l0_2 0).f2).length c137_2]), (6, 79, .agg #[.int .u64 x114000_1, .int .u64 x114001_1, .int .u64 x114002_1, .int .u64 x114003_1]), (7, 80, .agg #[.int .u64 t138, .int .u64 t139, .int .u64 t140, .int .u64 t141]), (8, 81, .agg #[.int .u64 t142, .int .u64 t143, .int .u64 t144, .int .u64 t145]), (9, 14, m9_)] ∧ (w'.heap[gb110]? = some (.cells #[.int .i64 a0_0, .slice A0_1 l0_1.length c0_1, .slice (some ad137) l0_2.length c0_2] 25 (0, 0))) ∧ (w'.heap[gb111]? = some (.cells #[.int .u64 a2_0, .int .u64 a2_1, .int .u64 a2_2, .int .u64 a2_3] 71 (0, 0))) ∧ (w'.heap[gb112]? = some (.cells #[.int .u64 0, .int .u64 0, .int .u64 0, .int .u64 0] 71 (0, 0))) ∧ (w'.heap[gb113]? = some (.cells #[.int .u64 x114000_1, .int .u64 x114001_1, .int .u64 x114002_1, .int .u64 x114003_1] 71 (0, 0))) ∧ (Below w.heap.size w w') ∧ (b 9 = true → b 10 = false → w'.heap[gb146]? = some (.cells #[.int .u64 0, .int .u64 0, .int .u64 0, .int .u64 0] 71 (0, 0))) ∧ (b 9 = true → w.heap.size ≤ gb146) ∧ (b 9 = true → w.heap.size ≤ gb146) ∧ (b 9 = true → gb110 ≠ gb146) ∧ (b 9 = true → gb146 ≠ gb110) ∧ (b 9 = true → gb111 ≠ gb146) ∧ (b 9 = true → gb146 ≠ gb111) ∧ (b 9 = true → gb112 ≠ gb146) ∧ (b 9 = true → gb146 ≠ gb112) ∧ (b 9 = true → gb113 ≠ gb146) ∧ (b 9 = true → gb146 ≠ gb113) ∧ (b 10 = true → w'.heap[gb146]? = some (.cells #[.int .u64 t142, .int .u64 t143, .int .u64 t144, .int .u64 t145] 71 (0, 0))) ∧ (b 9 = true → (m9_ : Value) = .pointer (some ⟨gb146, 0, none⟩))) HT_.out HW_.out (by kernel_rfl) (by kernel_rfl) ?_ ?_ ?_
               · exact ⟨0, .bool false, by simp only [putSel, Bool.false_eq_true, if_false], BK110.out, BK111.out, BK112.out, BK113.out, HB.out, fun h_ => absurd h_ (by decide), fun h_ => absurd h_ (by decide), fun h_ => absurd h_ (by decide), fun h_ => absurd h_ (by decide), fun h_ => absurd h_ (by decide), fun h_ => absurd h_ (by decide), fun h_ => absurd h_ (by decide), fun h_ => absurd h_ (by decide), fun h_ => absurd h_ (by decide), fun h_ => absurd h_ (by decide), fun h_ => absurd h_ (by decide), fun h_ => absurd h_ (by decide), fun h_ => absurd h_ (by decide)⟩
               · skip
                 clear BK110 BK111 BK112 BK113 HB
                 refine steps_cons ?_ ?_
                 · rintro b a w' ⟨gb146, m9_, ha, Q_BK110, Q_BK111, Q_BK112, Q_BK113, Q_HB, Q_BK146, Q_GW146, Q_GE146, Q_NB110_146, Q_NB146_110, Q_NB111_146, Q_NB146_111, Q_NB112_146, Q_NB146_112, Q_NB113_146, Q_NB146_113, Q_BK146_e10, Q_X9_⟩ hb_ hon hoff
                   refine ⟨_, rfl, fun K hK => ?_⟩
                   have e7 : a.tmps[7]? = some (.pointer (some ⟨gb113, 0, none⟩)) := by rw [ha]; exact (putSel_off rfl).trans rfl
                   replace ha := aM ha
                   have BK110 := aM Q_BK110
                   have BK111 := aM Q_BK111
                   have BK112 := aM Q_BK112
                   have BK113 := aM Q_BK113
                   have HB := aM Q_HB
                   have hc0_ : w'.cell? ⟨gb113, 0, none⟩ = some (.int .u64 x114000_1) := (blk_cell BK113.out 0).trans rfl
                   have hc1_ : w'.cell? ⟨gb113, 1, none⟩ = some (.int .u64 x114001_1) := (blk_cell BK113.out 1).trans rfl
                   have hc2_ : w'.cell? ⟨gb113, 2, none⟩ = some (.int .u64 x114002_1) := (blk_cell BK113.out 2).trans rfl
                   have hc3_ : w'.cell? ⟨gb113, 3, none⟩ = some (.int .u64 x114003_1) := (blk_cell BK113.out 3).trans rfl
                   refine value_ (w1 := w') (v := .agg #[.int .u64 x114000_1, .int .u64 x114001_1, .int .u64 x114002_1, .int .u64 x114003_1]) (by rfl) rfl ?_ ?_
                   · go_simp
                     (try simp only [i64_w])
                     try rfl
                   refine hK.out _ _ ⟨gb146, m9_, (by rw [ha.out]; exact putSel_upk 0 hb_ rfl rfl rfl), Q_BK110, Q_BK111, Q_BK112, Q_BK113, Q_HB, Q_BK146, Q_GW146, Q_GE146, Q_NB110_146, Q_NB146_110, Q_NB111_146, Q_NB146_111, Q_NB112_146, Q_NB146_112, Q_NB113_146, Q_NB146_113, fun h0_ => absurd ((hoff 10 (by kernel_rfl)).symm.trans h0_) (by decide), Q_X9_⟩
                 refine steps_cons ?_ ?_
                 · rintro b a w' ⟨gb146, m9_, ha, Q_BK110, Q_BK111, Q_BK112, Q_BK113, Q_HB, Q_BK146, Q_GW146, Q_GE146, Q_NB110_146, Q_NB146_110, Q_NB111_146, Q_NB146_111, Q_NB112_146, Q_NB146_112, Q_NB113_146, Q_NB146_113, Q_BK146_e10, Q_X9_⟩ hb_ hon hoff
                   refine ⟨_, rfl, fun K hK => ?_⟩
                   have e74 : a.tmps[74]? = some (.pointer (some ⟨gb110, 2, none⟩)) := by rw [ha]; exact (putSel_off rfl).trans rfl
                   replace ha := aM ha
                   have BK110 := aM Q_BK110
                   have BK111 := aM Q_BK111
                   have BK112 := aM Q_BK112
                   have BK113 := aM Q_BK113
                   have HB := aM Q_HB
                   have hc0_ : w'.cell? ⟨gb110, 0, none⟩ = some (.int .i64 a0_0) := (blk_cell BK110.out 0).trans rfl
                   have hc1_ : w'.cell? ⟨gb110, 1, none⟩ = some (.slice A0_1 l0_1.length c0_1) := (blk_cell BK110.out 1).trans rfl
                   have hc2_ : w'.cell? ⟨gb110, 2, none⟩ = some (.slice (some ad137) l0_2.length c0_2) := (blk_cell BK110.out 2).trans rfl
                   refine value_ (w1 := w') (v := .slice (some ad137) l0_2.length c0_2) (by rfl) rfl ?_ ?_
                   · go_simp
                     (try simp only [i64_w])
                     try rfl
                   refine hK.out _ _ ⟨gb146, m9_, (by rw [ha.out]; exact putSel_upk 1 hb_ rfl rfl rfl), Q_BK110, Q_BK111, Q_BK112, Q_BK113, Q_HB, Q_BK146, Q_GW146, Q_GE146, Q_NB110_146, Q_NB146_110, Q_NB111_146, Q_NB146_111, Q_NB112_146, Q_NB146_112, Q_NB113_146, Q_NB146_113, fun h0_ => absurd ((hoff 10 (by kernel_rfl)).symm.trans h0_) (by decide), Q_X9_⟩
                 refine steps_cons ?_ ?_
                 · rintro b a w' ⟨gb146, m9_, ha, Q_BK110, Q_BK111, Q_BK112, Q_BK113, Q_HB, Q_BK146, Q_GW146, Q_GE146, Q_NB110_146, Q_NB146_110, Q_NB111_146, Q_NB146_111, Q_NB112_146, Q_NB146_112, Q_NB113_146, Q_NB146_113, Q_BK146_e10, Q_X9_⟩ hb_ hon hoff
                   refine ⟨_, rfl, fun K hK => ?_⟩
                   have e75 : a.tmps[75]? = some (.slice (some ad137) l0_2.length c0_2) := by rw [ha]; exact putSel_on (e := (2, 75, .slice (some ad137) l0_2.length c0_2)) 1 rfl rfl (hon 2 (by kernel_rfl)) rfl
                   replace ha := aM ha
                   have BK110 := aM Q_BK110
                   have BK111 := aM Q_BK111
                   have BK112 := aM Q_BK112
                   have BK113 := aM Q_BK113
                   have HB := aM Q_HB
                   have hs0_ : w'.cell? ad137 = some (.int .i64 ((rd_T25 l0_2 0).f0)) := ((HB.out.cell (World.block_lt_of_cell? w _ hw137_0)).trans hw137_0)
                   have hs1_ : w'.cell? ⟨ad137.block, ad137.off + 1, none⟩ = some (.slice A137_1 ((rd_T25 l0_2 0).f1).length c137_1) := ((HB.out.cell (World.block_lt_of_cell? w _ hw137_1)).trans hw137_1)
                   have hs2_ : w'.cell? ⟨ad137.block, ad137.off + 2, none⟩ = some (.slice A137_2 ((rd_T25 l0_2 0).f2).length c137_2) := ((HB.out.cell (World.block_lt_of_cell? w _ hw137_2)).trans hw137_2)
                   refine value_ (w1 := w') (v := .pointer (some ad137)) (by rfl) rfl ?_ ?_
                   · go_simp
                     (try simp only [i64_w])
                     try rfl
                   refine hK.out _ _ ⟨gb146, m9_, (by rw [ha.out]; exact putSel_upk 2 hb_ rfl rfl rfl), Q_BK110, Q_BK111, Q_BK112, Q_BK113, Q_HB, Q_BK146, Q_GW146, Q_GE146, Q_NB110_146, Q_NB146_110, Q_NB111_146, Q_NB146_111, Q_NB112_146, Q_NB146_112, Q_NB113_146, Q_NB146_113, fun h0_ => absurd ((hoff 10 (by kernel_rfl)).symm.trans h0_) (by decide), Q_X9_⟩
                 refine steps_cons ?_ ?_
                 · rintro b a w' ⟨gb146, m9_, ha, Q_BK110, Q_BK111, Q_BK112, Q_BK113, Q_HB, Q_BK146, Q_GW146, Q_GE146, Q_NB110_146, Q_NB146_110, Q_NB111_146, Q_NB146_111, Q_NB112_146, Q_NB146_112, Q_NB113_146, Q_NB146_113, Q_BK146_e10, Q_X9_⟩ hb_ hon hoff
                   refine ⟨_, rfl, fun K hK => ?_⟩
                   have e76 : a.tmps[76]? = some (.pointer (some ad137)) := by rw [ha]; exact putSel_on (e := (3, 76, .pointer (some ad137))) 2 rfl rfl (hon 3 (by kernel_rfl)) rfl
                   replace ha := aM ha
                   have BK110 := aM Q_BK110
                   have BK111 := aM Q_BK111
                   have BK112 := aM Q_BK112
                   have BK113 := aM Q_BK113
                   have HB := aM Q_HB
                   have hs0_ : w'.cell? ad137 = some (.int .i64 ((rd_T25 l0_2 0).f0)) := ((HB.out.cell (World.block_lt_of_cell? w _ hw137_0)).trans hw137_0)
                   have hs1_ : w'.cell? ⟨ad137.block, ad137.off + 1, none⟩ = some (.slice A137_1 ((rd_T25 l0_2 0).f1).length c137_1) := ((HB.out.cell (World.block_lt_of_cell? w _ hw137_1)).trans hw137_1)
                   have hs2_ : w'.cell? ⟨ad137.block, ad137.off + 2, none⟩ = some (.slice A137_2 ((rd_T25 l0_2 0).f2).length c137_2) := ((HB.out.cell (World.block_lt_of_cell? w _ hw137_2)).trans hw137_2)
                   refine value_ (w1 := w') (v := .agg #[.int .i64 ((rd_T25 l0_2 0).f0), .slice A137_1 ((rd_T25 l0_2 0).f1).length c137_1, .slice A137_2 ((rd_T25 l0_2 0).f2).length c137_2]) (by rfl) rfl ?_ ?_
                   · go_simp
                     (try simp only [i64_w])
                     try rfl
                   refine hK.out _ _ ⟨gb146, m9_, (by rw [ha.out]; exact putSel_upk 3 hb_ rfl rfl rfl), Q_BK110, Q_BK111, Q_BK112, Q_BK113, Q_HB, Q_BK146, Q_GW146, Q_GE146, Q_NB110_146, Q_NB146_110, Q_NB111_146, Q_NB146_111, Q_NB112_146, Q_NB146_112, Q_NB113_146, Q_NB146_113, fun h0_ => absurd ((hoff 10 (by kernel_rfl)).symm.trans h0_) (by decide), Q_X9_⟩
                 refine steps_cons ?_ ?_
                 · rintro b a w' ⟨gb146, m9_, ha, Q_BK110, Q_BK111, Q_BK112, Q_BK113, Q_HB, Q_BK146, Q_GW146, Q_GE146, Q_NB110_146, Q_NB146_110, Q_NB111_146, Q_NB146_111, Q_NB112_146, Q_NB146_112, Q_NB113_146, Q_NB146_113, Q_BK146_e10, Q_X9_⟩ hb_ hon hoff
                   refine ⟨_, rfl, fun K hK => ?_⟩
                   have e7 : a.tmps[7]? = some (.pointer (some ⟨gb113, 0, none⟩)) := by rw [ha]; exact (putSel_off rfl).trans rfl
                   replace ha := aM ha
                   have BK110 := aM Q_BK110
                   have BK111 := aM Q_BK111
                   have BK112 := aM Q_BK112
                   have BK113 := aM Q_BK113
                   have HB := aM Q_HB
                   have hc0_ : w'.cell? ⟨gb113, 0, none⟩ = some (.int .u64 x114000_1) := (blk_cell BK113.out 0).trans rfl
                   have hc1_ : w'.cell? ⟨gb113, 1, none⟩ = some (.int .u64 x114001_1) := (blk_cell BK113.out 1).trans rfl
                   have hc2_ : w'.cell? ⟨gb113, 2, none⟩ = some (.int .u64 x114002_1) := (blk_cell BK113.out 2).trans rfl
                   have hc3_ : w'.cell? ⟨gb113, 3, none⟩ = some (.int .u64 x114003_1) := (blk_cell BK113.out 3).trans rfl
                   refine value_ (w1 := w') (v := .agg #[.int .u64 x114000_1, .int .u64 x114001_1, .int .u64 x114002_1, .int .u64 x114003_1]) (by rfl) rfl ?_ ?_
                   · go_simp
                     (try simp only [i64_w])
                     try rfl
                   refine hK.out _ _ ⟨gb146, m9_, (by rw [ha.out]; exact putSel_upk 4 hb_ rfl rfl rfl), Q_BK110, Q_BK111, Q_BK112, Q_BK113, Q_HB, Q_BK146, Q_GW146, Q_GE146, Q_NB110_146, Q_NB146_110, Q_NB111_146, Q_NB146_111, Q_NB112_146, Q_NB146_112, Q_NB113_146, Q_NB146_113, fun h0_ => absurd ((hoff 10 (by kernel_rfl)).symm.trans h0_) (by decide), Q_X9_⟩
                 refine steps_cons ?_ ?_
                 · rintro b a w' ⟨gb146, m9_, ha, Q_BK110, Q_BK111, Q_BK112, Q_BK113, Q_HB, Q_BK146, Q_GW146, Q_GE146, Q_NB110_146, Q_NB146_110, Q_NB111_146, Q_NB146_111, Q_NB112_146, Q_NB146_112, Q_NB113_146, Q_NB146_113, Q_BK146_e10, Q_X9_⟩ hb_ hon hoff
                   refine ⟨_, rfl, fun K hK => ?_⟩
                   have e77 : a.tmps[77]? = some (.agg #[.int .i64 ((rd_T25 l0_2 0).f0), .slice A137_1 ((rd_T25 l0_2 0).f1).length c137_1, .slice A137_2 ((rd_T25 l0_2 0).f2).length c137_2]) := by rw [ha]; exact putSel_on (e := (4, 77, .agg #[.int .i64 ((rd_T25 l0_2 0).f0), .slice A137_1 ((rd_T25 l0_2 0).f1).length c137_1, .slice A137_2 ((rd_T25 l0_2 0).f2).length c137_2])) 3 rfl rfl (hon 4 (by kernel_rfl)) rfl
                   have e78 : a.tmps[78]? = some (.slice A1 l1.length c1) := by rw [ha]; exact (putSel_off rfl).trans rfl
                   have e79 : a.tmps[79]? = some (.agg #[.int .u64 x114000_1, .int .u64 x114001_1, .int .u64 x114002_1, .int .u64 x114003_1]) := by rw [ha]; exact putSel_on (e := (6, 79, .agg #[.int .u64 x114000_1, .int .u64 x114001_1, .int .u64 x114002_1, .int .u64 x114003_1])) 4 rfl rfl (hon 6 (by kernel_rfl)) rfl
                   replace ha := aM ha
                   have BK110 := aM Q_BK110
                   have BK111 := aM Q_BK111
                   have BK112 := aM Q_BK112
                   have BK113 := aM Q_BK113
                   have HB := aM Q_HB
                   refine goes_ Try.func46 (by kernel_rfl) rfl #[.agg #[.int .i64 ((rd_T25 l0_2 0).f0), .slice A137_1 ((rd_T25 l0_2 0).f1).length c137_1, .slice A137_2 ((rd_T25 l0_2 0).f2).length c137_2], .slice A1 l1.length c1, .agg #[.int .u64 x114000_1, .int .u64 x114001_1, .int .u64 x114002_1, .int .u64 x114003_1]] (by rfl) rfl rfl (by first | (simp only [List.map_toArray, List.map_cons, List.map_nil, Act.eval, Array.getD_eq_getD_getElem?, Option.getD_some, e77, e78, e79]; done) | (simp only [List.map_toArray, List.map_cons, List.map_nil, Act.eval, Array.getD_eq_getD_getElem?, Option.getD_some, e77, e78, e79]; rfl)) ?_
                   with_reducible refine (ih k1 (by have := HK1.out; omega) ((rd_T25 l0_2 0).f0) _ _ ((rd_T25 l0_2 0).f1) _ _ ((rd_T25 l0_2 0).f2) _ _ l1 x114000_1 x114001_1 x114002_1 x114003_1 t138 t139 t140 t141 _ ?side1 ?side2 ?side3 ?side4 ?side5 ?side6 A139.out).mono ?_
                   (case side1 => repeat (first | exact (Kd.C_below HR137_1.out HB.out) | (with_reducible refine Kd.C_alloc ?_ _) | (with_reducible refine Kd.C_drewN ?_ _) | (with_reducible refine Kd.C_drew ?_)))
                   (case side2 => exact HC137_1.out)
                   (case side3 => repeat (first | exact (Kd.C_below HR137_2.out HB.out) | (with_reducible refine Kd.C_alloc ?_ _) | (with_reducible refine Kd.C_drewN ?_ _) | (with_reducible refine Kd.C_drew ?_)))
                   (case side4 => exact HC137_2.out)
                   (case side5 => repeat (first | exact (Kd.C_below HR1.out HB.out) | (with_reducible refine Kd.C_alloc ?_ _) | (with_reducible refine Kd.C_drewN ?_ _) | (with_reducible refine Kd.C_drew ?_)))
                   (case side6 => exact HC1.out)
                   rintro e w143 ⟨rfl, hb⟩
                   refine ⟨_, rfl, ?_⟩
                   have n0_ := aM (blk_below (g := gb110) (o := .cells #[.int .i64 a0_0, .slice A0_1 l0_1.length c0_1, .slice (some ad137) l0_2.length c0_2] 25 (0, 0)) (by (with_reducible repeat (first | apply bkN | apply bkD | apply bkA)); exact BK110.out) hb)
                   have n1_ := aM (blk_below (g := gb111) (o := .cells #[.int .u64 a2_0, .int .u64 a2_1, .int .u64 a2_2, .int .u64 a2_3] 71 (0, 0)) (by (with_reducible repeat (first | apply bkN | apply bkD | apply bkA)); exact BK111.out) hb)
                   have n2_ := aM (blk_below (g := gb112) (o := .cells #[.int .u64 0, .int .u64 0, .int .u64 0, .int .u64 0] 71 (0, 0)) (by (with_reducible repeat (first | apply bkN | apply bkD | apply bkA)); exact BK112.out) hb)
                   have n3_ := aM (blk_below (g := gb113) (o := .cells #[.int .u64 x114000_1, .int .u64 x114001_1, .int .u64 x114002_1, .int .u64 x114003_1] 71 (0, 0)) (by (with_reducible repeat (first | apply bkN | apply bkD | apply bkA)); exact BK113.out) hb)
                   have n4_ := aM (below_step (by repeat (first | (with_reducible first | exact HB.out | apply blA | apply blN | apply blD | refine bS ?_ GE110.out | refine bS ?_ GE111.out | refine bS ?_ GE112.out | refine bS ?_ GE113.out) | exact HB.out)) hb)
                   have z_BK146 := fun (h0_ : b 9 = true) (h1_ : b 10 = false) => (show w143.heap[gb146]? = some (.cells #[.int .u64 0, .int .u64 0, .int .u64 0, .int .u64 0] 71 (0, 0)) from by first | exact (blk_below (g := gb146) (o := .cells #[.int .u64 0, .int .u64 0, .int .u64 0, .int .u64 0] 71 (0, 0)) (by (with_reducible repeat (first | apply bkN | apply bkD | apply bkA)); exact (Q_BK146 h0_ h1_)) hb))
                   clear BK110
                   clear BK111
                   clear BK112
                   clear BK113
                   clear HB
                   have BK110 := n0_
                   have BK111 := n1_
                   have BK112 := n2_
                   have BK113 := n3_
                   have HB := n4_
                   clear n0_ n1_ n2_ n3_ n4_
                   (try clear hb)
                   (try clear hb2)
                   (try clear hk)
                   (try clear hi)
                   refine hK.out _ _ ⟨gb146, m9_, (by rw [ha.out]; exact putSel_upk 5 hb_ rfl rfl rfl), (by (with_reducible repeat (first | apply bkN | apply bkD | apply bkA)); exact BK110.out), (by (with_reducible repeat (first | apply bkN | apply bkD | apply bkA)); exact BK111.out), (by (with_reducible repeat (first | apply bkN | apply bkD | apply bkA)); exact BK112.out), (by (with_reducible repeat (first | apply bkN | apply bkD | apply bkA)); exact BK113.out), (by repeat (first | (with_reducible first | exact HB.out | apply blA | apply blN | apply blD | refine bS ?_ GE110.out | refine bS ?_ GE111.out | refine bS ?_ GE112.out | refine bS ?_ GE113.out) | exact HB.out)), z_BK146, Q_GW146, Q_GE146, Q_NB110_146, Q_NB146_110, Q_NB111_146, Q_NB146_111, Q_NB112_146, Q_NB146_112, Q_NB113_146, Q_NB146_113, fun h0_ => absurd ((hoff 10 (by kernel_rfl)).symm.trans h0_) (by decide), Q_X9_⟩
                 refine steps_cons ?_ ?_
                 · rintro b a w' ⟨gb146, m9_, ha, Q_BK110, Q_BK111, Q_BK112, Q_BK113, Q_HB, Q_BK146, Q_GW146, Q_GE146, Q_NB110_146, Q_NB146_110, Q_NB111_146, Q_NB146_111, Q_NB112_146, Q_NB146_112, Q_NB113_146, Q_NB146_113, Q_BK146_e10, Q_X9_⟩ hb_ hon hoff
                   refine ⟨_, rfl, fun K hK => ?_⟩
                   have e73 : a.tmps[73]? = some (.agg #[.int .u64 x114000_1, .int .u64 x114001_1, .int .u64 x114002_1, .int .u64 x114003_1]) := by rw [ha]; exact putSel_on (e := (0, 73, .agg #[.int .u64 x114000_1, .int .u64 x114001_1, .int .u64 x114002_1, .int .u64 x114003_1])) 0 rfl rfl (hon 0 (by kernel_rfl)) rfl
                   have e80 : a.tmps[80]? = some (.agg #[.int .u64 t138, .int .u64 t139, .int .u64 t140, .int .u64 t141]) := by rw [ha]; exact putSel_on (e := (7, 80, .agg #[.int .u64 t138, .int .u64 t139, .int .u64 t140, .int .u64 t141])) 5 rfl rfl (hon 7 (by kernel_rfl)) rfl
                   replace ha := aM ha
                   have BK110 := aM Q_BK110
                   have BK111 := aM Q_BK111
                   have BK112 := aM Q_BK112
                   have BK113 := aM Q_BK113
                   have HB := aM Q_HB
                   refine goes_ Try.func82 (by kernel_rfl) rfl #[.agg #[.int .u64 x114000_1, .int .u64 x114001_1, .int .u64 x114002_1, .int .u64 x114003_1], .agg #[.int .u64 t138, .int .u64 t139, .int .u64 t140, .int .u64 t141]] (by rfl) rfl rfl (by first | (simp only [List.map_toArray, List.map_cons, List.map_nil, Act.eval, Array.getD_eq_getD_getElem?, Option.getD_some, e73, e80]; done) | (simp only [List.map_toArray, List.map_cons, List.map_nil, Act.eval, Array.getD_eq_getD_getElem?, Option.getD_some, e73, e80]; rfl)) ?_
                   with_reducible refine (pat_places_with.calls x114000_1 x114001_1 x114002_1 x114003_1 t138 t139 t140 t141 t142 t143 t144 t145 _ A140.out).mono ?_
                   rintro e w145 ⟨rfl, hb⟩
                   refine ⟨_, rfl, ?_⟩
                   have n0_ := aM (blk_below (g := gb110) (o := .cells #[.int .i64 a0_0, .slice A0_1 l0_1.length c0_1, .slice (some ad137) l0_2.length c0_2] 25 (0, 0)) (by (with_reducible repeat (first | apply bkN | apply bkD | apply bkA)); exact BK110.out) hb)
                   have n1_ := aM (blk_below (g := gb111) (o := .cells #[.int .u64 a2_0, .int .u64 a2_1, .int .u64 a2_2, .int .u64 a2_3] 71 (0, 0)) (by (with_reducible repeat (first | apply bkN | apply bkD | apply bkA)); exact BK111.out) hb)
                   have n2_ := aM (blk_below (g := gb112) (o := .cells #[.int .u64 0, .int .u64 0, .int .u64 0, .int .u64 0] 71 (0, 0)) (by (with_reducible repeat (first | apply bkN | apply bkD | apply bkA)); exact BK112.out) hb)
                   have n3_ := aM (blk_below (g := gb113) (o := .cells #[.int .u64 x114000_1, .int .u64 x114001_1, .int .u64 x114002_1, .int .u64 x114003_1] 71 (0, 0)) (by (with_reducible repeat (first | apply bkN | apply bkD | apply bkA)); exact BK113.out) hb)
                   have n4_ := aM (below_step (by repeat (first | (with_reducible first | exact HB.out | apply blA | apply blN | apply blD | refine bS ?_ GE110.out | refine bS ?_ GE111.out | refine bS ?_ GE112.out | refine bS ?_ GE113.out) | exact HB.out)) hb)
                   have z_BK146 := fun (h0_ : b 9 = true) (h1_ : b 10 = false) => (show w145.heap[gb146]? = some (.cells #[.int .u64 0, .int .u64 0, .int .u64 0, .int .u64 0] 71 (0, 0)) from by first | exact (blk_below (g := gb146) (o := .cells #[.int .u64 0, .int .u64 0, .int .u64 0, .int .u64 0] 71 (0, 0)) (by (with_reducible repeat (first | apply bkN | apply bkD | apply bkA)); exact (Q_BK146 h0_ h1_)) hb))
                   clear BK110
                   clear BK111
                   clear BK112
                   clear BK113
                   clear HB
                   have BK110 := n0_
                   have BK111 := n1_
                   have BK112 := n2_
                   have BK113 := n3_
                   have HB := n4_
                   clear n0_ n1_ n2_ n3_ n4_
                   (try clear hb)
                   (try clear hb2)
                   (try clear hk)
                   (try clear hi)
                   refine hK.out _ _ ⟨gb146, m9_, (by rw [ha.out]; exact putSel_upk 6 hb_ rfl rfl rfl), (by (with_reducible repeat (first | apply bkN | apply bkD | apply bkA)); exact BK110.out), (by (with_reducible repeat (first | apply bkN | apply bkD | apply bkA)); exact BK111.out), (by (with_reducible repeat (first | apply bkN | apply bkD | apply bkA)); exact BK112.out), (by (with_reducible repeat (first | apply bkN | apply bkD | apply bkA)); exact BK113.out), (by repeat (first | (with_reducible first | exact HB.out | apply blA | apply blN | apply blD | refine bS ?_ GE110.out | refine bS ?_ GE111.out | refine bS ?_ GE112.out | refine bS ?_ GE113.out) | exact HB.out)), z_BK146, Q_GW146, Q_GE146, Q_NB110_146, Q_NB146_110, Q_NB111_146, Q_NB146_111, Q_NB112_146, Q_NB146_112, Q_NB113_146, Q_NB146_113, fun h0_ => absurd ((hoff 10 (by kernel_rfl)).symm.trans h0_) (by decide), Q_X9_⟩
                 refine steps_cons ?_ ?_
                 · rintro b a w' ⟨gb146, m9_, ha, Q_BK110, Q_BK111, Q_BK112, Q_BK113, Q_HB, Q_BK146, Q_GW146, Q_GE146, Q_NB110_146, Q_NB146_110, Q_NB111_146, Q_NB146_111, Q_NB112_146, Q_NB146_112, Q_NB113_146, Q_NB146_113, Q_BK146_e10, Q_X9_⟩ hb_ hon hoff
                   refine ⟨_, rfl, fun K hK => ?_⟩
                   replace ha := aM ha
                   have BK110 := aM Q_BK110
                   have BK111 := aM Q_BK111
                   have BK112 := aM Q_BK112
                   have BK113 := aM Q_BK113
                   have HB := aM Q_HB
                   refine box_step ?hg (N := 14) ?hd (cs := #[.int .u64 0, .int .u64 0, .int .u64 0, .int .u64 0]) (t := 71) ?hr ?_; (case hd => rfl); (case hg => rfl); (case hr => first | (go_simp; done) | (go_simp; rfl))
                   intro gb146 hg w143 hbox hb
                   have n0_ := aM (blk_below (g := gb110) (o := .cells #[.int .i64 a0_0, .slice A0_1 l0_1.length c0_1, .slice (some ad137) l0_2.length c0_2] 25 (0, 0)) (by (with_reducible repeat (first | apply bkN | apply bkD | apply bkA)); exact BK110.out) hb)
                   have n1_ := aM (blk_below (g := gb111) (o := .cells #[.int .u64 a2_0, .int .u64 a2_1, .int .u64 a2_2, .int .u64 a2_3] 71 (0, 0)) (by (with_reducible repeat (first | apply bkN | apply bkD | apply bkA)); exact BK111.out) hb)
                   have n2_ := aM (blk_below (g := gb112) (o := .cells #[.int .u64 0, .int .u64 0, .int .u64 0, .int .u64 0] 71 (0, 0)) (by (with_reducible repeat (first | apply bkN | apply bkD | apply bkA)); exact BK112.out) hb)
                   have n3_ := aM (blk_below (g := gb113) (o := .cells #[.int .u64 x114000_1, .int .u64 x114001_1, .int .u64 x114002_1, .int .u64 x114003_1] 71 (0, 0)) (by (with_reducible repeat (first | apply bkN | apply bkD | apply bkA)); exact BK113.out) hb)
                   have n4_ := aM (below_step (by repeat (first | (with_reducible first | exact HB.out | apply blA | apply blN | apply blD | refine bS ?_ GE110.out | refine bS ?_ GE111.out | refine bS ?_ GE112.out | refine bS ?_ GE113.out) | exact HB.out)) hb)
                   have n5_ := aM (hbox)
                   have n6_ := aM ((by rw [hg]; exact (below_size (by repeat (first | (with_reducible first | exact HB.out | apply blA | apply blN | apply blD | refine bS ?_ GE110.out | refine bS ?_ GE111.out | refine bS ?_ GE112.out | refine bS ?_ GE113.out) | exact HB.out))) : w.heap.size ≤ gb146))
                   have n7_ := aM ((by rw [hg]; exact (below_size (by repeat (first | (with_reducible first | exact HB.out | apply blA | apply blN | apply blD | refine bS ?_ GE110.out | refine bS ?_ GE111.out | refine bS ?_ GE112.out | refine bS ?_ GE113.out) | exact HB.out))) : w.heap.size ≤ gb146))
                   have n8_ := aM ((by rw [hg]; exact Nat.ne_of_lt (blk_lt (g := gb110) (o := .cells #[.int .i64 a0_0, .slice A0_1 l0_1.length c0_1, .slice (some ad137) l0_2.length c0_2] 25 (0, 0)) (by (with_reducible repeat (first | apply bkN | apply bkD | apply bkA)); exact BK110.out)) : gb110 ≠ gb146))
                   have n9_ := aM ((by rw [hg]; exact Nat.ne_of_gt (blk_lt (g := gb110) (o := .cells #[.int .i64 a0_0, .slice A0_1 l0_1.length c0_1, .slice (some ad137) l0_2.length c0_2] 25 (0, 0)) (by (with_reducible repeat (first | apply bkN | apply bkD | apply bkA)); exact BK110.out)) : gb146 ≠ gb110))
                   have n10_ := aM ((by rw [hg]; exact Nat.ne_of_lt (blk_lt (g := gb111) (o := .cells #[.int .u64 a2_0, .int .u64 a2_1, .int .u64 a2_2, .int .u64 a2_3] 71 (0, 0)) (by (with_reducible repeat (first | apply bkN | apply bkD | apply bkA)); exact BK111.out)) : gb111 ≠ gb146))
                   have n11_ := aM ((by rw [hg]; exact Nat.ne_of_gt (blk_lt (g := gb111) (o := .cells #[.int .u64 a2_0, .int .u64 a2_1, .int .u64 a2_2, .int .u64 a2_3] 71 (0, 0)) (by (with_reducible repeat (first | apply bkN | apply bkD | apply bkA)); exact BK111.out)) : gb146 ≠ gb111))
                   have n12_ := aM ((by rw [hg]; exact Nat.ne_of_lt (blk_lt (g := gb112) (o := .cells #[.int .u64 0, .int .u64 0, .int .u64 0, .int .u64 0] 71 (0, 0)) (by (with_reducible repeat (first | apply bkN | apply bkD | apply bkA)); exact BK112.out)) : gb112 ≠ gb146))
                   have n13_ := aM ((by rw [hg]; exact Nat.ne_of_gt (blk_lt (g := gb112) (o := .cells #[.int .u64 0, .int .u64 0, .int .u64 0, .int .u64 0] 71 (0, 0)) (by (with_reducible repeat (first | apply bkN | apply bkD | apply bkA)); exact BK112.out)) : gb146 ≠ gb112))
                   have n14_ := aM ((by rw [hg]; exact Nat.ne_of_lt (blk_lt (g := gb113) (o := .cells #[.int .u64 x114000_1, .int .u64 x114001_1, .int .u64 x114002_1, .int .u64 x114003_1] 71 (0, 0)) (by (with_reducible repeat (first | apply bkN | apply bkD | apply bkA)); exact BK113.out)) : gb113 ≠ gb146))
                   have n15_ := aM ((by rw [hg]; exact Nat.ne_of_gt (blk_lt (g := gb113) (o := .cells #[.int .u64 x114000_1, .int .u64 x114001_1, .int .u64 x114002_1, .int .u64 x114003_1] 71 (0, 0)) (by (with_reducible repeat (first | apply bkN | apply bkD | apply bkA)); exact BK113.out)) : gb146 ≠ gb113))
                   clear BK110
                   clear BK111
                   clear BK112
                   clear BK113
                   clear HB
                   have BK110 := n0_
                   have BK111 := n1_
                   have BK112 := n2_
                   have BK113 := n3_
                   have HB := n4_
                   have BK146 := n5_
                   have GW146 := n6_
                   have GE146 := n7_
                   have NB110_146 := n8_
                   have NB146_110 := n9_
                   have NB111_146 := n10_
                   have NB146_111 := n11_
                   have NB112_146 := n12_
                   have NB146_112 := n13_
                   have NB113_146 := n14_
                   have NB146_113 := n15_
                   clear n0_ n1_ n2_ n3_ n4_ n5_ n6_ n7_ n8_ n9_ n10_ n11_ n12_ n13_ n14_ n15_
                   clear hb hbox hg
                   refine hK.out _ _ ⟨gb146, (.pointer (some ⟨gb146, 0, none⟩)), (by rw [ha.out]; exact putSel_upk 7 hb_ rfl rfl rfl), (by (with_reducible repeat (first | apply bkN | apply bkD | apply bkA)); exact BK110.out), (by (with_reducible repeat (first | apply bkN | apply bkD | apply bkA)); exact BK111.out), (by (with_reducible repeat (first | apply bkN | apply bkD | apply bkA)); exact BK112.out), (by (with_reducible repeat (first | apply bkN | apply bkD | apply bkA)); exact BK113.out), (by repeat (first | (with_reducible first | exact HB.out | apply blA | apply blN | apply blD | refine bS ?_ GE110.out | refine bS ?_ GE111.out | refine bS ?_ GE112.out | refine bS ?_ GE113.out | refine bS ?_ GE146.out) | exact HB.out)), fun _ _ => (by (with_reducible repeat (first | apply bkN | apply bkD | apply bkA)); exact BK146.out), fun _ => GW146.out, fun _ => GE146.out, fun _ => NB110_146.out, fun _ => NB146_110.out, fun _ => NB111_146.out, fun _ => NB146_111.out, fun _ => NB112_146.out, fun _ => NB146_112.out, fun _ => NB113_146.out, fun _ => NB146_113.out, fun h0_ => absurd ((hoff 10 (by kernel_rfl)).symm.trans h0_) (by decide), fun _ => rfl⟩
                 refine steps_cons ?_ ?_
                 · rintro b a w' ⟨gb146, m9_, ha, Q_BK110, Q_BK111, Q_BK112, Q_BK113, Q_HB, Q_BK146, Q_GW146, Q_GE146, Q_NB110_146, Q_NB146_110, Q_NB111_146, Q_NB146_111, Q_NB112_146, Q_NB146_112, Q_NB113_146, Q_NB146_113, Q_BK146_e10, Q_X9_⟩ hb_ hon hoff
                   refine ⟨_, rfl, fun K hK => ?_⟩
                   have e14 : a.tmps[14]? = some (m9_) := by rw [ha]; exact putSel_on (e := (9, 14, m9_)) 7 rfl rfl (hon 9 (by kernel_rfl)) rfl
                   rw [Q_X9_ (hon 9 (by kernel_rfl))] at e14
                   have e81 : a.tmps[81]? = some (.agg #[.int .u64 t142, .int .u64 t143, .int .u64 t144, .int .u64 t145]) := by rw [ha]; exact putSel_on (e := (8, 81, .agg #[.int .u64 t142, .int .u64 t143, .int .u64 t144, .int .u64 t145])) 6 rfl rfl (hon 8 (by kernel_rfl)) rfl
                   replace ha := aM ha
                   have BK110 := aM Q_BK110
                   have BK111 := aM Q_BK111
                   have BK112 := aM Q_BK112
                   have BK113 := aM Q_BK113
                   have HB := aM Q_HB
                   have BK146 := aM (Q_BK146 (hon 9 (by kernel_rfl)) hb_)
                   have GW146 := aM (Q_GW146 (hon 9 (by kernel_rfl)))
                   have GE146 := aM (Q_GE146 (hon 9 (by kernel_rfl)))
                   have NB110_146 := aM (Q_NB110_146 (hon 9 (by kernel_rfl)))
                   have NB146_110 := aM (Q_NB146_110 (hon 9 (by kernel_rfl)))
                   have NB111_146 := aM (Q_NB111_146 (hon 9 (by kernel_rfl)))
                   have NB146_111 := aM (Q_NB146_111 (hon 9 (by kernel_rfl)))
                   have NB112_146 := aM (Q_NB112_146 (hon 9 (by kernel_rfl)))
                   have NB146_112 := aM (Q_NB146_112 (hon 9 (by kernel_rfl)))
                   have NB113_146 := aM (Q_NB113_146 (hon 9 (by kernel_rfl)))
                   have NB146_113 := aM (Q_NB146_113 (hon 9 (by kernel_rfl)))
                   have hs147 : w'.cell? ⟨gb146, 0, none⟩ = some (.int .u64 0) := (blk_cell BK146.out 0).trans rfl
                   have hfs147 := bF BK146.out 0
                   have hns147_0 := NB110_146.out
                   have hns147_1 := NB111_146.out
                   have hns147_2 := NB112_146.out
                   have hns147_3 := NB113_146.out
                   have hms147_0 := NB146_110.out
                   have hms147_1 := NB146_111.out
                   have hms147_2 := NB146_112.out
                   have hms147_3 := NB146_113.out
                   have hs148 : w'.cell? ⟨gb146, 1, none⟩ = some (.int .u64 0) := (blk_cell BK146.out 1).trans rfl
                   have hfs148 := bF BK146.out 1
                   have hns148_0 := NB110_146.out
                   have hns148_1 := NB111_146.out
                   have hns148_2 := NB112_146.out
                   have hns148_3 := NB113_146.out
                   have hms148_0 := NB146_110.out
                   have hms148_1 := NB146_111.out
                   have hms148_2 := NB146_112.out
                   have hms148_3 := NB146_113.out
                   have hs149 : w'.cell? ⟨gb146, 2, none⟩ = some (.int .u64 0) := (blk_cell BK146.out 2).trans rfl
                   have hfs149 := bF BK146.out 2
                   have hns149_0 := NB110_146.out
                   have hns149_1 := NB111_146.out
                   have hns149_2 := NB112_146.out
                   have hns149_3 := NB113_146.out
                   have hms149_0 := NB146_110.out
                   have hms149_1 := NB146_111.out
                   have hms149_2 := NB146_112.out
                   have hms149_3 := NB146_113.out
                   have hs150 : w'.cell? ⟨gb146, 3, none⟩ = some (.int .u64 0) := (blk_cell BK146.out 3).trans rfl
                   have hfs150 := bF BK146.out 3
                   have hns150_0 := NB110_146.out
                   have hns150_1 := NB111_146.out
                   have hns150_2 := NB112_146.out
                   have hns150_3 := NB113_146.out
                   have hms150_0 := NB146_110.out
                   have hms150_1 := NB146_111.out
                   have hms150_2 := NB146_112.out
                   have hms150_3 := NB146_113.out
                   refine skip_ (w1 := ?_) (by rfl) rfl ?_ ?_
                   rotate_left
                   · go_simp
                     rfl
                   refine hK.out _ _ ⟨gb146, m9_, (by rw [ha.out]; exact putSel_none (v := undef) rfl), (by (with_reducible repeat (first | apply bkN | apply bkD | apply bkA)); refine blk_far ?_ NB110_146.out _; (with_reducible repeat (first | apply bkN | apply bkD | apply bkA)); refine blk_far ?_ NB110_146.out _; (with_reducible repeat (first | apply bkN | apply bkD | apply bkA)); refine blk_far ?_ NB110_146.out _; (with_reducible repeat (first | apply bkN | apply bkD | apply bkA)); refine blk_far ?_ NB110_146.out _; (with_reducible repeat (first | apply bkN | apply bkD | apply bkA)); exact BK110.out), (by (with_reducible repeat (first | apply bkN | apply bkD | apply bkA)); refine blk_far ?_ NB111_146.out _; (with_reducible repeat (first | apply bkN | apply bkD | apply bkA)); refine blk_far ?_ NB111_146.out _; (with_reducible repeat (first | apply bkN | apply bkD | apply bkA)); refine blk_far ?_ NB111_146.out _; (with_reducible repeat (first | apply bkN | apply bkD | apply bkA)); refine blk_far ?_ NB111_146.out _; (with_reducible repeat (first | apply bkN | apply bkD | apply bkA)); exact BK111.out), (by (with_reducible repeat (first | apply bkN | apply bkD | apply bkA)); refine blk_far ?_ NB112_146.out _; (with_reducible repeat (first | apply bkN | apply bkD | apply bkA)); refine blk_far ?_ NB112_146.out _; (with_reducible repeat (first | apply bkN | apply bkD | apply bkA)); refine blk_far ?_ NB112_146.out _; (with_reducible repeat (first | apply bkN | apply bkD | apply bkA)); refine blk_far ?_ NB112_146.out _; (with_reducible repeat (first | apply bkN | apply bkD | apply bkA)); exact BK112.out), (by (with_reducible repeat (first | apply bkN | apply bkD | apply bkA)); refine blk_far ?_ NB113_146.out _; (with_reducible repeat (first | apply bkN | apply bkD | apply bkA)); refine blk_far ?_ NB113_146.out _; (with_reducible repeat (first | apply bkN | apply bkD | apply bkA)); refine blk_far ?_ NB113_146.out _; (with_reducible repeat (first | apply bkN | apply bkD | apply bkA)); refine blk_far ?_ NB113_146.out _; (with_reducible repeat (first | apply bkN | apply bkD | apply bkA)); exact BK113.out), (by repeat (first | (with_reducible first | exact HB.out | apply blA | apply blN | apply blD | refine bS ?_ GE110.out | refine bS ?_ GE111.out | refine bS ?_ GE112.out | refine bS ?_ GE113.out | refine bS ?_ GE146.out) | exact HB.out)), fun _ h1_ => absurd ((up_self b 10).symm.trans h1_) (by decide), fun _ => GW146.out, fun _ => GE146.out, fun _ => NB110_146.out, fun _ => NB146_110.out, fun _ => NB111_146.out, fun _ => NB146_111.out, fun _ => NB112_146.out, fun _ => NB146_112.out, fun _ => NB113_146.out, fun _ => NB146_113.out, fun _ => (by (with_reducible repeat (first | apply bkN | apply bkD | apply bkA)); refine blk_put (cs := #[.int .u64 t142, .int .u64 t143, .int .u64 t144, .int .u64 0]) ?_ 3 _ rfl; (with_reducible repeat (first | apply bkN | apply bkD | apply bkA)); refine blk_put (cs := #[.int .u64 t142, .int .u64 t143, .int .u64 0, .int .u64 0]) ?_ 2 _ rfl; (with_reducible repeat (first | apply bkN | apply bkD | apply bkA)); refine blk_put (cs := #[.int .u64 t142, .int .u64 0, .int .u64 0, .int .u64 0]) ?_ 1 _ rfl; (with_reducible repeat (first | apply bkN | apply bkD | apply bkA)); refine blk_put (cs := #[.int .u64 0, .int .u64 0, .int .u64 0, .int .u64 0]) ?_ 0 _ rfl; (with_reducible repeat (first | apply bkN | apply bkD | apply bkA)); exact BK146.out), Q_X9_⟩
                 exact steps_nil
               rintro b a w150 hall ⟨gb146, m9_, ha, Q_BK110, Q_BK111, Q_BK112, Q_BK113, Q_HB, Q_BK146, Q_GW146, Q_GE146, Q_NB110_146, Q_NB146_110, Q_NB111_146, Q_NB146_111, Q_NB112_146, Q_NB146_112, Q_NB113_146, Q_NB146_113, Q_BK146_e10, Q_X9_⟩
               clear BK110 BK111 BK112 BK113 HB
               have hb0_ := hall 0 (by kernel_rfl)
               have hb2_ := hall 2 (by kernel_rfl)
               have hb3_ := hall 3 (by kernel_rfl)
               have hb4_ := hall 4 (by kernel_rfl)
               have hb6_ := hall 6 (by kernel_rfl)
               have hb7_ := hall 7 (by kernel_rfl)
               have hb8_ := hall 8 (by kernel_rfl)
               have hb9_ := hall 9 (by kernel_rfl)
               have hb10_ := hall 10 (by kernel_rfl)
               subst ha
               obtain rfl := Q_X9_ hb9_
               simp only [putSel, hb0_, hb2_, hb3_, hb4_, hb6_, hb7_, hb8_, hb9_, hb10_, if_true, Act.put, List.setIfInBounds_toArray, List.set_cons_zero, List.set_cons_succ]
               have BK110 := aM Q_BK110
               clear Q_BK110
               have BK111 := aM Q_BK111
               clear Q_BK111
               have BK112 := aM Q_BK112
               clear Q_BK112
               have BK113 := aM Q_BK113
               clear Q_BK113
               have HB := aM Q_HB
               clear Q_HB
               clear Q_BK146
               have GW146 := aM (Q_GW146 hb9_)
               clear Q_GW146
               have GE146 := aM (Q_GE146 hb9_)
               clear Q_GE146
               have NB110_146 := aM (Q_NB110_146 hb9_)
               clear Q_NB110_146
               have NB146_110 := aM (Q_NB146_110 hb9_)
               clear Q_NB146_110
               have NB111_146 := aM (Q_NB111_146 hb9_)
               clear Q_NB111_146
               have NB146_111 := aM (Q_NB146_111 hb9_)
               clear Q_NB146_111
               have NB112_146 := aM (Q_NB112_146 hb9_)
               clear Q_NB112_146
               have NB146_112 := aM (Q_NB146_112 hb9_)
               clear Q_NB146_112
               have NB113_146 := aM (Q_NB113_146 hb9_)
               clear Q_NB113_146
               have NB146_113 := aM (Q_NB146_113 hb9_)
               clear Q_NB146_113
               have BK146 := aM (Q_BK146_e10 hb10_)
               clear Q_BK146_e10
               clear hall hb0_ hb2_ hb3_ hb4_ hb6_ hb7_ hb8_ hb9_ hb10_
               have hnb151 := NB146_110.out
               have hnc151 := NB110_146.out
               have hnb152 := NB146_111.out
               have hnc152 := NB111_146.out
               have hnb153 := NB146_112.out
               have hnc153 := NB112_146.out
               have hnb154 := NB146_113.out
               have hnc154 := NB113_146.out
               have hcz155_0 : w150.cell? ⟨gb146, 0, none⟩ = some (.int .u64 t142) := (blk_cell BK146.out 0).trans rfl
               have hcz155_1 : w150.cell? ⟨gb146, 1, none⟩ = some (.int .u64 t143) := (blk_cell BK146.out 1).trans rfl
               have hcz155_2 : w150.cell? ⟨gb146, 2, none⟩ = some (.int .u64 t144) := (blk_cell BK146.out 2).trans rfl
               have hcz155_3 : w150.cell? ⟨gb146, 3, none⟩ = some (.int .u64 t145) := (blk_cell BK146.out 3).trans rfl
               have hfz155_0 := bF BK146.out 0
               have hfz155_1 := bF BK146.out 1
               have hfz155_2 := bF BK146.out 2
               have hfz155_3 := bF BK146.out 3
               have hnb156 := NB113_110.out
               have hnc156 := NB110_113.out
               have hnb157 := NB113_111.out
               have hnc157 := NB111_113.out
               have hnb158 := NB113_112.out
               have hnc158 := NB112_113.out
               have hcz159_0 : w150.cell? ⟨gb113, 0, none⟩ = some (.int .u64 x114000_1) := (blk_cell BK113.out 0).trans rfl
               have hcz159_1 : w150.cell? ⟨gb113, 1, none⟩ = some (.int .u64 x114001_1) := (blk_cell BK113.out 1).trans rfl
               have hcz159_2 : w150.cell? ⟨gb113, 2, none⟩ = some (.int .u64 x114002_1) := (blk_cell BK113.out 2).trans rfl
               have hcz159_3 : w150.cell? ⟨gb113, 3, none⟩ = some (.int .u64 x114003_1) := (blk_cell BK113.out 3).trans rfl
               have hfz159_0 := bF BK113.out 0
               have hfz159_1 := bF BK113.out 1
               have hfz159_2 := bF BK113.out 2
               have hfz159_3 := bF BK113.out 3
               have hnb160 := NB112_110.out
               have hnc160 := NB110_112.out
               have hnb161 := NB112_111.out
               have hnc161 := NB111_112.out
               have hcz162_0 : w150.cell? ⟨gb112, 0, none⟩ = some (.int .u64 0) := (blk_cell BK112.out 0).trans rfl
               have hcz162_1 : w150.cell? ⟨gb112, 1, none⟩ = some (.int .u64 0) := (blk_cell BK112.out 1).trans rfl
               have hcz162_2 : w150.cell? ⟨gb112, 2, none⟩ = some (.int .u64 0) := (blk_cell BK112.out 2).trans rfl
               have hcz162_3 : w150.cell? ⟨gb112, 3, none⟩ = some (.int .u64 0) := (blk_cell BK112.out 3).trans rfl
               have hfz162_0 := bF BK112.out 0
               have hfz162_1 := bF BK112.out 1
               have hfz162_2 := bF BK112.out 2
               have hfz162_3 := bF BK112.out 3
               try go_wp2
               repeat (go_step3; try go_wp2_with (fail))
               refine bodyPost_ret (results_cell_row rfl _ _ gb112 71 #[.int .u64 x114000_1, .int .u64 x114001_1, .int .u64 x114002_1, .int .u64 x114003_1] (0, 0) _ rfl (by (with_reducible repeat (first | apply bkN | apply bkD | apply bkA)); refine blk_put (cs := #[.int .u64 x114000_1, .int .u64 x114001_1, .int .u64 x114002_1, .int .u64 0]) ?_ 3 _ rfl; (with_reducible repeat (first | apply bkN | apply bkD | apply bkA)); refine blk_put (cs := #[.int .u64 x114000_1, .int .u64 x114001_1, .int .u64 0, .int .u64 0]) ?_ 2 _ rfl; (with_reducible repeat (first | apply bkN | apply bkD | apply bkA)); refine blk_put (cs := #[.int .u64 x114000_1, .int .u64 0, .int .u64 0, .int .u64 0]) ?_ 1 _ rfl; (with_reducible repeat (first | apply bkN | apply bkD | apply bkA)); refine blk_put (cs := #[.int .u64 0, .int .u64 0, .int .u64 0, .int .u64 0]) ?_ 0 _ rfl; (with_reducible repeat (first | apply bkN | apply bkD | apply bkA)); exact BK112.out) Try.underlying71 rfl (by kernel_rfl)) rfl ?_
               exact ⟨by first | rfl | (simp [errW_none, errW_some] <;> rfl) | (simp [*, errW_none, errW_some] <;> rfl), by repeat (first | (with_reducible first | exact HB.out | apply blA | apply blN | apply blD | refine bS ?_ GE110.out | refine bS ?_ GE111.out | refine bS ?_ GE112.out | refine bS ?_ GE113.out | refine bS ?_ GE146.out) | exact HB.out)⟩
             · rw [if_neg c141] at H
               have c141b0 : (t142 == x114000_1 && (t143 == x114001_1 && (t144 == x114002_1 && (t145 == x114003_1)))) = false := by simpa using c141
               (try (have c141b1 : decide (t142 = x114000_1 && (t143 == x114001_1 && (t144 == x114002_1 && (t145 == x114003_1)))) = false := by simpa using c141))
               (try (have c141b2 : (t142 == x114000_1 && (t143 == x114001_1 && (t144 == x114002_1 && (t145 == x114003_1)))) = false := by simpa using c141))
               (try (have c141b3 : ¬ (t142 = x114000_1 && (t143 == x114001_1 && (t144 == x114002_1 && (t145 == x114003_1)))) := by simpa using c141))
               clear c141
               have H' := aM H
               clear H
               try go_wp2
               repeat (go_step3; try go_wp2_with (fail))
               have n0_ := aM (blk_drew BK110.out)
               have n1_ := aM (blk_drew BK111.out)
               have n2_ := aM (blk_drew BK112.out)
               have n3_ := aM (blk_drew BK113.out)
               have n4_ := aM (below_drew1 HB.out)
               clear BK110
               clear BK111
               clear BK112
               clear BK113
               clear HB
               have BK110 := n0_
               have BK111 := n1_
               have BK112 := n2_
               have BK113 := n3_
               have HB := n4_
               clear n0_ n1_ n2_ n3_ n4_
               have p137 : 0 ≤ (0 : Int) := (by omega)
               have q137 : 0 < (l0_2.length : Int) := of_decide_eq_true (by first | (with_reducible assumption) | assumption)
               obtain ⟨ad137, A137_1, c137_1, A137_2, c137_2, e137, hx137_0, hx137_1, hx137_2, hl137_1, hi137_1, hl137_2, hi137_2⟩ := at_T25 HR0_2.out 0 p137 q137
               have hw137_2 := hx137_2
               (try rw [show ((0 : Int)).toNat = 0 from rfl] at hw137_2)
               (try rw [show 0 * 3 = 0 from rfl] at hw137_2)
               (try rw [Addr.add_zero'] at hw137_2)
               have hw137_1 := hx137_1
               (try rw [show ((0 : Int)).toNat = 0 from rfl] at hw137_1)
               (try rw [show 0 * 3 = 0 from rfl] at hw137_1)
               (try rw [Addr.add_zero'] at hw137_1)
               have hw137_0 := hx137_0
               (try rw [show ((0 : Int)).toNat = 0 from rfl] at hw137_0)
               (try rw [show 0 * 3 = 0 from rfl] at hw137_0)
               (try rw [Addr.add_zero'] at hw137_0)
               cases e137
               have qi137 : (0 < l0_2.length) = True := eq_true (by omega)
               (try rw [show ((0 : Int)).toNat = 0 from rfl] at hx137_0)
               (try rw [show 0 * 3 = 0 from rfl] at hx137_0)
               (try rw [Addr.add_zero'] at hx137_0)
               (try rw [show ((0 : Int)).toNat = 0 from rfl] at hx137_1)
               (try rw [show 0 * 3 = 0 from rfl] at hx137_1)
               (try rw [Addr.add_zero'] at hx137_1)
               (try rw [show ((0 : Int)).toNat = 0 from rfl] at hx137_2)
               (try rw [show 0 * 3 = 0 from rfl] at hx137_2)
               (try rw [Addr.add_zero'] at hx137_2)
               replace hx137_0 := (HB.out.cell (World.block_lt_of_cell? w _ hx137_0)).trans hx137_0
               replace hx137_1 := (HB.out.cell (World.block_lt_of_cell? w _ hx137_1)).trans hx137_1
               replace hx137_2 := (HB.out.cell (World.block_lt_of_cell? w _ hx137_2)).trans hx137_2
               have HR137_1 := aM hi137_1
               have HC137_1 := aM hl137_1
               clear hi137_1 hl137_1
               have HR137_2 := aM hi137_2
               have HC137_2 := aM hl137_2
               clear hi137_2 hl137_2
               replace p137 := eq_true p137
               replace q137 := eq_true q137
               refine start_ (n := 11) (S := fun w' => True) (ds := []) #[false, false, false, false, false, false, false, false, false, false, false] (by kernel_rfl) rfl rfl trivial (fun hHeld => ?_); refine with_tabW pat_ends.tab25 pat_ends.bits25 (fun HT_ HW_ => ?_)
               generalize wr.drew = w163 at BK110 BK111 BK112 BK113 HB HR137_1 HR137_2 hx137_0 hx137_1 hx137_2 hHeld ⊢
               refine pure_ (i := 1) (N := some 74) (v := ?_) (a' := ?_) #[false, true, false, false, false, false, false, false, false, false, false] rfl rfl (any_of HT_.out (by kernel_rfl)) (fun _ _ _ h => h) (Or.inl ⟨by rfl, ?_⟩) ?_ ?_
               rotate_left
               · intro w'
                 go_simp
                 with_reducible rfl
               rotate_left
               · simp only [Act.put, List.setIfInBounds_toArray, List.set_cons_zero, List.set_cons_succ, i64_w, i32_w]
                 rfl
               refine pure_ (i := 5) (N := some 78) (v := ?_) (a' := ?_) #[false, true, false, false, false, true, false, false, false, false, false] rfl rfl (any_of HT_.out (by kernel_rfl)) (fun _ _ _ h => h) (Or.inl ⟨by rfl, ?_⟩) ?_ ?_
               rotate_left
               · intro w'
                 go_simp
                 with_reducible rfl
               rotate_left
               · simp only [Act.put, List.setIfInBounds_toArray, List.set_cons_zero, List.set_cons_succ, i64_w, i32_w]
                 rfl
               refine inv_at [0, 2, 3, 4, 6, 7, 8, 9, 10] (fun a0_ b a w' => ∃ (gb146 : Nat) (m9_ : Value), a = putSel a0_ b [(0, 73, .agg #[.int .u64 x114000_1, .int .u64 x114001_1, .int .u64 x114002_1, .int .u64 x114003_1]), (2, 75, .slice (some ad137) l0_2.length c0_2), (3, 76, .pointer (some ad137)), (4, 77, .agg #[.int .i64 ((rd_T25 l0_2 0).f0), .slice A137_1 ((rd_T25 l0_2 0).f1).length c137_1, .slice A137_2 ((rd_T25 l0_2 0).f2).length c137_2]), (6, 79, .agg #[.int .u64 x114000_1, .int .u64 x114001_1, .int .u64 x114002_1, .int .u64 x114003_1]), (7, 80, .agg #[.int .u64 t138, .int .u64 t139, .int .u64 t140, .int .u64 t141]), (8, 81, .agg #[.int .u64 t142, .int .u64 t143, .int .u64 t144, .int .u64 t145]), (9, 14, m9_)] ∧ (w'.heap[gb110]? = some (.cells #[.int .i64 a0_0, .slice A0_1 l0_1.length c0_1, .slice (some ad137) l0_2.length c0_2] 25 (0, 0))) ∧ (w'.heap[gb111]? = some (.cells #[.int .u64 a2_0, .int .u64 a2_1, .int .u64 a2_2, .int .u64 a2_3] 71 (0, 0))) ∧ (w'.heap[gb112]? = some (.cells #[.int .u64 0, .int .u64 0, .int .u64 0, .int .u64 0] 71 (0, 0))) ∧ (w'.heap[gb113]? = some (.cells #[.int .u64 x114000_1, .int .u64 x114001_1, .int .u64 x114002_1, .int .u64 x114003_1] 71 (0, 0))) ∧ (Below w.heap.size w w') ∧ (b 9 = true → b 10 = false → w'.heap[gb146]? = some (.cells #[.int .u64 0, .int .u64 0, .int .u64 0, .int .u64 0] 71 (0, 0))) ∧ (b 9 = true → w.heap.size ≤ gb146) ∧ (b 9 = true → w.heap.size ≤ gb146) ∧ (b 9 = true → gb110 ≠ gb146) ∧ (b 9 = true → gb146 ≠ gb110) ∧ (b 9 = true → gb111 ≠ gb146) ∧ (b 9 = true → gb146 ≠ gb111) ∧ (b 9 = true → gb112 ≠ gb146) ∧ (b 9 = true → gb146 ≠ gb112) ∧ (b 9 = true → gb113 ≠ gb146) ∧ (b 9 = true → gb146 ≠ gb113) ∧ (b 10 = true → w'.heap[gb146]? = some (.cells #[.int .u64 t142, .int .u64 t143, .int .u64 t144, .int .u64 t145] 71 (0, 0))) ∧ (b 9 = true → (m9_ : Value) = .pointer (some ⟨gb146, 0, none⟩))) HT_.out HW_.out (by kernel_rfl) (by kernel_rfl) ?_ ?_ ?_
               · exact ⟨0, .bool false, by simp only [putSel, Bool.false_eq_true, if_false], BK110.out, BK111.out, BK112.out, BK113.out, HB.out, fun h_ => absurd h_ (by decide), fun h_ => absurd h_ (by decide), fun h_ => absurd h_ (by decide), fun h_ => absurd h_ (by decide), fun h_ => absurd h_ (by decide), fun h_ => absurd h_ (by decide), fun h_ => absurd h_ (by decide), fun h_ => absurd h_ (by decide), fun h_ => absurd h_ (by decide), fun h_ => absurd h_ (by decide), fun h_ => absurd h_ (by decide), fun h_ => absurd h_ (by decide), fun h_ => absurd h_ (by decide)⟩
               · skip
                 clear BK110 BK111 BK112 BK113 HB
                 refine steps_cons ?_ ?_
                 · rintro b a w' ⟨gb146, m9_, ha, Q_BK110, Q_BK111, Q_BK112, Q_BK113, Q_HB, Q_BK146, Q_GW146, Q_GE146, Q_NB110_146, Q_NB146_110, Q_NB111_146, Q_NB146_111, Q_NB112_146, Q_NB146_112, Q_NB113_146, Q_NB146_113, Q_BK146_e10, Q_X9_⟩ hb_ hon hoff
                   refine ⟨_, rfl, fun K hK => ?_⟩
                   have e7 : a.tmps[7]? = some (.pointer (some ⟨gb113, 0, none⟩)) := by rw [ha]; exact (putSel_off rfl).trans rfl
                   replace ha := aM ha
                   have BK110 := aM Q_BK110
                   have BK111 := aM Q_BK111
                   have BK112 := aM Q_BK112
                   have BK113 := aM Q_BK113
                   have HB := aM Q_HB
                   have hc0_ : w'.cell? ⟨gb113, 0, none⟩ = some (.int .u64 x114000_1) := (blk_cell BK113.out 0).trans rfl
                   have hc1_ : w'.cell? ⟨gb113, 1, none⟩ = some (.int .u64 x114001_1) := (blk_cell BK113.out 1).trans rfl
                   have hc2_ : w'.cell? ⟨gb113, 2, none⟩ = some (.int .u64 x114002_1) := (blk_cell BK113.out 2).trans rfl
                   have hc3_ : w'.cell? ⟨gb113, 3, none⟩ = some (.int .u64 x114003_1) := (blk_cell BK113.out 3).trans rfl
                   refine value_ (w1 := w') (v := .agg #[.int .u64 x114000_1, .int .u64 x114001_1, .int .u64 x114002_1, .int .u64 x114003_1]) (by rfl) rfl ?_ ?_
                   · go_simp
                     (try simp only [i64_w])
                     try rfl
                   refine hK.out _ _ ⟨gb146, m9_, (by rw [ha.out]; exact putSel_upk 0 hb_ rfl rfl rfl), Q_BK110, Q_BK111, Q_BK112, Q_BK113, Q_HB, Q_BK146, Q_GW146, Q_GE146, Q_NB110_146, Q_NB146_110, Q_NB111_146, Q_NB146_111, Q_NB112_146, Q_NB146_112, Q_NB113_146, Q_NB146_113, fun h0_ => absurd ((hoff 10 (by kernel_rfl)).symm.trans h0_) (by decide), Q_X9_⟩
                 refine steps_cons ?_ ?_
                 · rintro b a w' ⟨gb146, m9_, ha, Q_BK110, Q_BK111, Q_BK112, Q_BK113, Q_HB, Q_BK146, Q_GW146, Q_GE146, Q_NB110_146, Q_NB146_110, Q_NB111_146, Q_NB146_111, Q_NB112_146, Q_NB146_112, Q_NB113_146, Q_NB146_113, Q_BK146_e10, Q_X9_⟩ hb_ hon hoff
                   refine ⟨_, rfl, fun K hK => ?_⟩
                   have e74 : a.tmps[74]? = some (.pointer (some ⟨gb110, 2, none⟩)) := by rw [ha]; exact (putSel_off rfl).trans rfl
                   replace ha := aM ha
                   have BK110 := aM Q_BK110
                   have BK111 := aM Q_BK111
                   have BK112 := aM Q_BK112
                   have BK113 := aM Q_BK113
                   have HB := aM Q_HB
                   have hc0_ : w'.cell? ⟨gb110, 0, none⟩ = some (.int .i64 a0_0) := (blk_cell BK110.out 0).trans rfl
                   have hc1_ : w'.cell? ⟨gb110, 1, none⟩ = some (.slice A0_1 l0_1.length c0_1) := (blk_cell BK110.out 1).trans rfl
                   have hc2_ : w'.cell? ⟨gb110, 2, none⟩ = some (.slice (some ad137) l0_2.length c0_2) := (blk_cell BK110.out 2).trans rfl
                   refine value_ (w1 := w') (v := .slice (some ad137) l0_2.length c0_2) (by rfl) rfl ?_ ?_
                   · go_simp
                     (try simp only [i64_w])
                     try rfl
                   refine hK.out _ _ ⟨gb146, m9_, (by rw [ha.out]; exact putSel_upk 1 hb_ rfl rfl rfl), Q_BK110, Q_BK111, Q_BK112, Q_BK113, Q_HB, Q_BK146, Q_GW146, Q_GE146, Q_NB110_146, Q_NB146_110, Q_NB111_146, Q_NB146_111, Q_NB112_146, Q_NB146_112, Q_NB113_146, Q_NB146_113, fun h0_ => absurd ((hoff 10 (by kernel_rfl)).symm.trans h0_) (by decide), Q_X9_⟩
                 refine steps_cons ?_ ?_
                 · rintro b a w' ⟨gb146, m9_, ha, Q_BK110, Q_BK111, Q_BK112, Q_BK113, Q_HB, Q_BK146, Q_GW146, Q_GE146, Q_NB110_146, Q_NB146_110, Q_NB111_146, Q_NB146_111, Q_NB112_146, Q_NB146_112, Q_NB113_146, Q_NB146_113, Q_BK146_e10, Q_X9_⟩ hb_ hon hoff
                   refine ⟨_, rfl, fun K hK => ?_⟩
                   have e75 : a.tmps[75]? = some (.slice (some ad137) l0_2.length c0_2) := by rw [ha]; exact putSel_on (e := (2, 75, .slice (some ad137) l0_2.length c0_2)) 1 rfl rfl (hon 2 (by kernel_rfl)) rfl
                   replace ha := aM ha
                   have BK110 := aM Q_BK110
                   have BK111 := aM Q_BK111
                   have BK112 := aM Q_BK112
                   have BK113 := aM Q_BK113
                   have HB := aM Q_HB
                   have hs0_ : w'.cell? ad137 = some (.int .i64 ((rd_T25 l0_2 0).f0)) := ((HB.out.cell (World.block_lt_of_cell? w _ hw137_0)).trans hw137_0)
                   have hs1_ : w'.cell? ⟨ad137.block, ad137.off + 1, none⟩ = some (.slice A137_1 ((rd_T25 l0_2 0).f1).length c137_1) := ((HB.out.cell (World.block_lt_of_cell? w _ hw137_1)).trans hw137_1)
                   have hs2_ : w'.cell? ⟨ad137.block, ad137.off + 2, none⟩ = some (.slice A137_2 ((rd_T25 l0_2 0).f2).length c137_2) := ((HB.out.cell (World.block_lt_of_cell? w _ hw137_2)).trans hw137_2)
                   refine value_ (w1 := w') (v := .pointer (some ad137)) (by rfl) rfl ?_ ?_
                   · go_simp
                     (try simp only [i64_w])
                     try rfl
                   refine hK.out _ _ ⟨gb146, m9_, (by rw [ha.out]; exact putSel_upk 2 hb_ rfl rfl rfl), Q_BK110, Q_BK111, Q_BK112, Q_BK113, Q_HB, Q_BK146, Q_GW146, Q_GE146, Q_NB110_146, Q_NB146_110, Q_NB111_146, Q_NB146_111, Q_NB112_146, Q_NB146_112, Q_NB113_146, Q_NB146_113, fun h0_ => absurd ((hoff 10 (by kernel_rfl)).symm.trans h0_) (by decide), Q_X9_⟩
                 refine steps_cons ?_ ?_
                 · rintro b a w' ⟨gb146, m9_, ha, Q_BK110, Q_BK111, Q_BK112, Q_BK113, Q_HB, Q_BK146, Q_GW146, Q_GE146, Q_NB110_146, Q_NB146_110, Q_NB111_146, Q_NB146_111, Q_NB112_146, Q_NB146_112, Q_NB113_146, Q_NB146_113, Q_BK146_e10, Q_X9_⟩ hb_ hon hoff
                   refine ⟨_, rfl, fun K hK => ?_⟩
                   have e76 : a.tmps[76]? = some (.pointer (some ad137)) := by rw [ha]; exact putSel_on (e := (3, 76, .pointer (some ad137))) 2 rfl rfl (hon 3 (by kernel_rfl)) rfl
                   replace ha := aM ha
                   have BK110 := aM Q_BK110
                   have BK111 := aM Q_BK111
                   have BK112 := aM Q_BK112
                   have BK113 := aM Q_BK113
                   have HB := aM Q_HB
                   have hs0_ : w'.cell? ad137 = some (.int .i64 ((rd_T25 l0_2 0).f0)) := ((HB.out.cell (World.block_lt_of_cell? w _ hw137_0)).trans hw137_0)
                   have hs1_ : w'.cell? ⟨ad137.block, ad137.off + 1, none⟩ = some (.slice A137_1 ((rd_T25 l0_2 0).f1).length c137_1) := ((HB.out.cell (World.block_lt_of_cell? w _ hw137_1)).trans hw137_1)
                   have hs2_ : w'.cell? ⟨ad137.block, ad137.off + 2, none⟩ = some (.slice A137_2 ((rd_T25 l0_2 0).f2).length c137_2) := ((HB.out.cell (World.block_lt_of_cell? w _ hw137_2)).trans hw137_2)
                   refine value_ (w1 := w') (v := .agg #[.int .i64 ((rd_T25 l0_2 0).f0), .slice A137_1 ((rd_T25 l0_2 0).f1).length c137_1, .slice A137_2 ((rd_T25 l0_2 0).f2).length c137_2]) (by rfl) rfl ?_ ?_
                   · go_simp
                     (try simp only [i64_w])
                     try rfl
                   refine hK.out _ _ ⟨gb146, m9_, (by rw [ha.out]; exact putSel_upk 3 hb_ rfl rfl rfl), Q_BK110, Q_BK111, Q_BK112, Q_BK113, Q_HB, Q_BK146, Q_GW146, Q_GE146, Q_NB110_146, Q_NB146_110, Q_NB111_146, Q_NB146_111, Q_NB112_146, Q_NB146_112, Q_NB113_146, Q_NB146_113, fun h0_ => absurd ((hoff 10 (by kernel_rfl)).symm.trans h0_) (by decide), Q_X9_⟩
                 refine steps_cons ?_ ?_
                 · rintro b a w' ⟨gb146, m9_, ha, Q_BK110, Q_BK111, Q_BK112, Q_BK113, Q_HB, Q_BK146, Q_GW146, Q_GE146, Q_NB110_146, Q_NB146_110, Q_NB111_146, Q_NB146_111, Q_NB112_146, Q_NB146_112, Q_NB113_146, Q_NB146_113, Q_BK146_e10, Q_X9_⟩ hb_ hon hoff
                   refine ⟨_, rfl, fun K hK => ?_⟩
                   have e7 : a.tmps[7]? = some (.pointer (some ⟨gb113, 0, none⟩)) := by rw [ha]; exact (putSel_off rfl).trans rfl
                   replace ha := aM ha
                   have BK110 := aM Q_BK110
                   have BK111 := aM Q_BK111
                   have BK112 := aM Q_BK112
                   have BK113 := aM Q_BK113
                   have HB := aM Q_HB
                   have hc0_ : w'.cell? ⟨gb113, 0, none⟩ = some (.int .u64 x114000_1) := (blk_cell BK113.out 0).trans rfl
                   have hc1_ : w'.cell? ⟨gb113, 1, none⟩ = some (.int .u64 x114001_1) := (blk_cell BK113.out 1).trans rfl
                   have hc2_ : w'.cell? ⟨gb113, 2, none⟩ = some (.int .u64 x114002_1) := (blk_cell BK113.out 2).trans rfl
                   have hc3_ : w'.cell? ⟨gb113, 3, none⟩ = some (.int .u64 x114003_1) := (blk_cell BK113.out 3).trans rfl
                   refine value_ (w1 := w') (v := .agg #[.int .u64 x114000_1, .int .u64 x114001_1, .int .u64 x114002_1, .int .u64 x114003_1]) (by rfl) rfl ?_ ?_
                   · go_simp
                     (try simp only [i64_w])
                     try rfl
                   refine hK.out _ _ ⟨gb146, m9_, (by rw [ha.out]; exact putSel_upk 4 hb_ rfl rfl rfl), Q_BK110, Q_BK111, Q_BK112, Q_BK113, Q_HB, Q_BK146, Q_GW146, Q_GE146, Q_NB110_146, Q_NB146_110, Q_NB111_146, Q_NB146_111, Q_NB112_146, Q_NB146_112, Q_NB113_146, Q_NB146_113, fun h0_ => absurd ((hoff 10 (by kernel_rfl)).symm.trans h0_) (by decide), Q_X9_⟩
                 refine steps_cons ?_ ?_
                 · rintro b a w' ⟨gb146, m9_, ha, Q_BK110, Q_BK111, Q_BK112, Q_BK113, Q_HB, Q_BK146, Q_GW146, Q_GE146, Q_NB110_146, Q_NB146_110, Q_NB111_146, Q_NB146_111, Q_NB112_146, Q_NB146_112, Q_NB113_146, Q_NB146_113, Q_BK146_e10, Q_X9_⟩ hb_ hon hoff
                   refine ⟨_, rfl, fun K hK => ?_⟩
                   have e77 : a.tmps[77]? = some (.agg #[.int .i64 ((rd_T25 l0_2 0).f0), .slice A137_1 ((rd_T25 l0_2 0).f1).length c137_1, .slice A137_2 ((rd_T25 l0_2 0).f2).length c137_2]) := by rw [ha]; exact putSel_on (e := (4, 77, .agg #[.int .i64 ((rd_T25 l0_2 0).f0), .slice A137_1 ((rd_T25 l0_2 0).f1).length c137_1, .slice A137_2 ((rd_T25 l0_2 0).f2).length c137_2])) 3 rfl rfl (hon 4 (by kernel_rfl)) rfl
                   have e78 : a.tmps[78]? = some (.slice A1 l1.length c1) := by rw [ha]; exact (putSel_off rfl).trans rfl
                   have e79 : a.tmps[79]? = some (.agg #[.int .u64 x114000_1, .int .u64 x114001_1, .int .u64 x114002_1, .int .u64 x114003_1]) := by rw [ha]; exact putSel_on (e := (6, 79, .agg #[.int .u64 x114000_1, .int .u64 x114001_1, .int .u64 x114002_1, .int .u64 x114003_1])) 4 rfl rfl (hon 6 (by kernel_rfl)) rfl
                   replace ha := aM ha
                   have BK110 := aM Q_BK110
                   have BK111 := aM Q_BK111
                   have BK112 := aM Q_BK112
                   have BK113 := aM Q_BK113
                   have HB := aM Q_HB
                   refine goes_ Try.func46 (by kernel_rfl) rfl #[.agg #[.int .i64 ((rd_T25 l0_2 0).f0), .slice A137_1 ((rd_T25 l0_2 0).f1).length c137_1, .slice A137_2 ((rd_T25 l0_2 0).f2).length c137_2], .slice A1 l1.length c1, .agg #[.int .u64 x114000_1, .int .u64 x114001_1, .int .u64 x114002_1, .int .u64 x114003_1]] (by rfl) rfl rfl (by first | (simp only [List.map_toArray, List.map_cons, List.map_nil, Act.eval, Array.getD_eq_getD_getElem?, Option.getD_some, e77, e78, e79]; done) | (simp only [List.map_toArray, List.map_cons, List.map_nil, Act.eval, Array.getD_eq_getD_getElem?, Option.getD_some, e77, e78, e79]; rfl)) ?_
                   with_reducible refine (ih k1 (by have := HK1.out; omega) ((rd_T25 l0_2 0).f0) _ _ ((rd_T25 l0_2 0).f1) _ _ ((rd_T25 l0_2 0).f2) _ _ l1 x114000_1 x114001_1 x114002_1 x114003_1 t138 t139 t140 t141 _ ?side1 ?side2 ?side3 ?side4 ?side5 ?side6 A139.out).mono ?_
                   (case side1 => repeat (first | exact (Kd.C_below HR137_1.out HB.out) | (with_reducible refine Kd.C_alloc ?_ _) | (with_reducible refine Kd.C_drewN ?_ _) | (with_reducible refine Kd.C_drew ?_)))
                   (case side2 => exact HC137_1.out)
                   (case side3 => repeat (first | exact (Kd.C_below HR137_2.out HB.out) | (with_reducible refine Kd.C_alloc ?_ _) | (with_reducible refine Kd.C_drewN ?_ _) | (with_reducible refine Kd.C_drew ?_)))
                   (case side4 => exact HC137_2.out)
                   (case side5 => repeat (first | exact (Kd.C_below HR1.out HB.out) | (with_reducible refine Kd.C_alloc ?_ _) | (with_reducible refine Kd.C_drewN ?_ _) | (with_reducible refine Kd.C_drew ?_)))
                   (case side6 => exact HC1.out)
                   rintro e w164 ⟨rfl, hb⟩
                   refine ⟨_, rfl, ?_⟩
                   have n0_ := aM (blk_below (g := gb110) (o := .cells #[.int .i64 a0_0, .slice A0_1 l0_1.length c0_1, .slice (some ad137) l0_2.length c0_2] 25 (0, 0)) (by (with_reducible repeat (first | apply bkN | apply bkD | apply bkA)); exact BK110.out) hb)
                   have n1_ := aM (blk_below (g := gb111) (o := .cells #[.int .u64 a2_0, .int .u64 a2_1, .int .u64 a2_2, .int .u64 a2_3] 71 (0, 0)) (by (with_reducible repeat (first | apply bkN | apply bkD | apply bkA)); exact BK111.out) hb)
                   have n2_ := aM (blk_below (g := gb112) (o := .cells #[.int .u64 0, .int .u64 0, .int .u64 0, .int .u64 0] 71 (0, 0)) (by (with_reducible repeat (first | apply bkN | apply bkD | apply bkA)); exact BK112.out) hb)
                   have n3_ := aM (blk_below (g := gb113) (o := .cells #[.int .u64 x114000_1, .int .u64 x114001_1, .int .u64 x114002_1, .int .u64 x114003_1] 71 (0, 0)) (by (with_reducible repeat (first | apply bkN | apply bkD | apply bkA)); exact BK113.out) hb)
                   have n4_ := aM (below_step (by repeat (first | (with_reducible first | exact HB.out | apply blA | apply blN | apply blD | refine bS ?_ GE110.out | refine bS ?_ GE111.out | refine bS ?_ GE112.out | refine bS ?_ GE113.out) | exact HB.out)) hb)
                   have z_BK146 := fun (h0_ : b 9 = true) (h1_ : b 10 = false) => (show w164.heap[gb146]? = some (.cells #[.int .u64 0, .int .u64 0, .int .u64 0, .int .u64 0] 71 (0, 0)) from by first | exact (blk_below (g := gb146) (o := .cells #[.int .u64 0, .int .u64 0, .int .u64 0, .int .u64 0] 71 (0, 0)) (by (with_reducible repeat (first | apply bkN | apply bkD | apply bkA)); exact (Q_BK146 h0_ h1_)) hb))
                   clear BK110
                   clear BK111
                   clear BK112
                   clear BK113
                   clear HB
                   have BK110 := n0_
                   have BK111 := n1_
                   have BK112 := n2_
                   have BK113 := n3_
                   have HB := n4_
                   clear n0_ n1_ n2_ n3_ n4_
                   (try clear hb)
                   (try clear hb2)
                   (try clear hk)
                   (try clear hi)
                   refine hK.out _ _ ⟨gb146, m9_, (by rw [ha.out]; exact putSel_upk 5 hb_ rfl rfl rfl), (by (with_reducible repeat (first | apply bkN | apply bkD | apply bkA)); exact BK110.out), (by (with_reducible repeat (first | apply bkN | apply bkD | apply bkA)); exact BK111.out), (by (with_reducible repeat (first | apply bkN | apply bkD | apply bkA)); exact BK112.out), (by (with_reducible repeat (first | apply bkN | apply bkD | apply bkA)); exact BK113.out), (by repeat (first | (with_reducible first | exact HB.out | apply blA | apply blN | apply blD | refine bS ?_ GE110.out | refine bS ?_ GE111.out | refine bS ?_ GE112.out | refine bS ?_ GE113.out) | exact HB.out)), z_BK146, Q_GW146, Q_GE146, Q_NB110_146, Q_NB146_110, Q_NB111_146, Q_NB146_111, Q_NB112_146, Q_NB146_112, Q_NB113_146, Q_NB146_113, fun h0_ => absurd ((hoff 10 (by kernel_rfl)).symm.trans h0_) (by decide), Q_X9_⟩
                 refine steps_cons ?_ ?_
                 · rintro b a w' ⟨gb146, m9_, ha, Q_BK110, Q_BK111, Q_BK112, Q_BK113, Q_HB, Q_BK146, Q_GW146, Q_GE146, Q_NB110_146, Q_NB146_110, Q_NB111_146, Q_NB146_111, Q_NB112_146, Q_NB146_112, Q_NB113_146, Q_NB146_113, Q_BK146_e10, Q_X9_⟩ hb_ hon hoff
                   refine ⟨_, rfl, fun K hK => ?_⟩
                   have e73 : a.tmps[73]? = some (.agg #[.int .u64 x114000_1, .int .u64 x114001_1, .int .u64 x114002_1, .int .u64 x114003_1]) := by rw [ha]; exact putSel_on (e := (0, 73, .agg #[.int .u64 x114000_1, .int .u64 x114001_1, .int .u64 x114002_1, .int .u64 x114003_1])) 0 rfl rfl (hon 0 (by kernel_rfl)) rfl
                   have e80 : a.tmps[80]? = some (.agg #[.int .u64 t138, .int .u64 t139, .int .u64 t140, .int .u64 t141]) := by rw [ha]; exact putSel_on (e := (7, 80, .agg #[.int .u64 t138, .int .u64 t139, .int .u64 t140, .int .u64 t141])) 5 rfl rfl (hon 7 (by kernel_rfl)) rfl
                   replace ha := aM ha
                   have BK110 := aM Q_BK110
                   have BK111 := aM Q_BK111
                   have BK112 := aM Q_BK112
                   have BK113 := aM Q_BK113
                   have HB := aM Q_HB
                   refine goes_ Try.func82 (by kernel_rfl) rfl #[.agg #[.int .u64 x114000_1, .int .u64 x114001_1, .int .u64 x114002_1, .int .u64 x114003_1], .agg #[.int .u64 t138, .int .u64 t139, .int .u64 t140, .int .u64 t141]] (by rfl) rfl rfl (by first | (simp only [List.map_toArray, List.map_cons, List.map_nil, Act.eval, Array.getD_eq_getD_getElem?, Option.getD_some, e73, e80]; done) | (simp only [List.map_toArray, List.map_cons, List.map_nil, Act.eval, Array.getD_eq_getD_getElem?, Option.getD_some, e73, e80]; rfl)) ?_
                   with_reducible refine (pat_places_with.calls x114000_1 x114001_1 x114002_1 x114003_1 t138 t139 t140 t141 t142 t143 t144 t145 _ A140.out).mono ?_
                   rintro e w166 ⟨rfl, hb⟩
                   refine ⟨_, rfl, ?_⟩
                   have n0_ := aM (blk_below (g := gb110) (o := .cells #[.int .i64 a0_0, .slice A0_1 l0_1.length c0_1, .slice (some ad137) l0_2.length c0_2] 25 (0, 0)) (by (with_reducible repeat (first | apply bkN | apply bkD | apply bkA)); exact BK110.out) hb)
                   have n1_ := aM (blk_below (g := gb111) (o := .cells #[.int .u64 a2_0, .int .u64 a2_1, .int .u64 a2_2, .int .u64 a2_3] 71 (0, 0)) (by (with_reducible repeat (first | apply bkN | apply bkD | apply bkA)); exact BK111.out) hb)
                   have n2_ := aM (blk_below (g := gb112) (o := .cells #[.int .u64 0, .int .u64 0, .int .u64 0, .int .u64 0] 71 (0, 0)) (by (with_reducible repeat (first | apply bkN | apply bkD | apply bkA)); exact BK112.out) hb)
                   have n3_ := aM (blk_below (g := gb113) (o := .cells #[.int .u64 x114000_1, .int .u64 x114001_1, .int .u64 x114002_1, .int .u64 x114003_1] 71 (0, 0)) (by (with_reducible repeat (first | apply bkN | apply bkD | apply bkA)); exact BK113.out) hb)
                   have n4_ := aM (below_step (by repeat (first | (with_reducible first | exact HB.out | apply blA | apply blN | apply blD | refine bS ?_ GE110.out | refine bS ?_ GE111.out | refine bS ?_ GE112.out | refine bS ?_ GE113.out) | exact HB.out)) hb)
                   have z_BK146 := fun (h0_ : b 9 = true) (h1_ : b 10 = false) => (show w166.heap[gb146]? = some (.cells #[.int .u64 0, .int .u64 0, .int .u64 0, .int .u64 0] 71 (0, 0)) from by first | exact (blk_below (g := gb146) (o := .cells #[.int .u64 0, .int .u64 0, .int .u64 0, .int .u64 0] 71 (0, 0)) (by (with_reducible repeat (first | apply bkN | apply bkD | apply bkA)); exact (Q_BK146 h0_ h1_)) hb))
                   clear BK110
                   clear BK111
                   clear BK112
                   clear BK113
                   clear HB
                   have BK110 := n0_
                   have BK111 := n1_
                   have BK112 := n2_
                   have BK113 := n3_
                   have HB := n4_
                   clear n0_ n1_ n2_ n3_ n4_
                   (try clear hb)
                   (try clear hb2)
                   (try clear hk)
                   (try clear hi)
                   refine hK.out _ _ ⟨gb146, m9_, (by rw [ha.out]; exact putSel_upk 6 hb_ rfl rfl rfl), (by (with_reducible repeat (first | apply bkN | apply bkD | apply bkA)); exact BK110.out), (by (with_reducible repeat (first | apply bkN | apply bkD | apply bkA)); exact BK111.out), (by (with_reducible repeat (first | apply bkN | apply bkD | apply bkA)); exact BK112.out), (by (with_reducible repeat (first | apply bkN | apply bkD | apply bkA)); exact BK113.out), (by repeat (first | (with_reducible first | exact HB.out | apply blA | apply blN | apply blD | refine bS ?_ GE110.out | refine bS ?_ GE111.out | refine bS ?_ GE112.out | refine bS ?_ GE113.out) | exact HB.out)), z_BK146, Q_GW146, Q_GE146, Q_NB110_146, Q_NB146_110, Q_NB111_146, Q_NB146_111, Q_NB112_146, Q_NB146_112, Q_NB113_146, Q_NB146_113, fun h0_ => absurd ((hoff 10 (by kernel_rfl)).symm.trans h0_) (by decide), Q_X9_⟩
                 refine steps_cons ?_ ?_
                 · rintro b a w' ⟨gb146, m9_, ha, Q_BK110, Q_BK111, Q_BK112, Q_BK113, Q_HB, Q_BK146, Q_GW146, Q_GE146, Q_NB110_146, Q_NB146_110, Q_NB111_146, Q_NB146_111, Q_NB112_146, Q_NB146_112, Q_NB113_146, Q_NB146_113, Q_BK146_e10, Q_X9_⟩ hb_ hon hoff
                   refine ⟨_, rfl, fun K hK => ?_⟩
                   replace ha := aM ha
                   have BK110 := aM Q_BK110
                   have BK111 := aM Q_BK111
                   have BK112 := aM Q_BK112
                   have BK113 := aM Q_BK113
                   have HB := aM Q_HB
                   refine box_step ?hg (N := 14) ?hd (cs := #[.int .u64 0, .int .u64 0, .int .u64 0, .int .u64 0]) (t := 71) ?hr ?_; (case hd => rfl); (case hg => rfl); (case hr => first | (go_simp; done) | (go_simp; rfl))
                   intro gb146 hg w164 hbox hb
                   have n0_ := aM (blk_below (g := gb110) (o := .cells #[.int .i64 a0_0, .slice A0_1 l0_1.length c0_1, .slice (some ad137) l0_2.length c0_2] 25 (0, 0)) (by (with_reducible repeat (first | apply bkN | apply bkD | apply bkA)); exact BK110.out) hb)
                   have n1_ := aM (blk_below (g := gb111) (o := .cells #[.int .u64 a2_0, .int .u64 a2_1, .int .u64 a2_2, .int .u64 a2_3] 71 (0, 0)) (by (with_reducible repeat (first | apply bkN | apply bkD | apply bkA)); exact BK111.out) hb)
                   have n2_ := aM (blk_below (g := gb112) (o := .cells #[.int .u64 0, .int .u64 0, .int .u64 0, .int .u64 0] 71 (0, 0)) (by (with_reducible repeat (first | apply bkN | apply bkD | apply bkA)); exact BK112.out) hb)
                   have n3_ := aM (blk_below (g := gb113) (o := .cells #[.int .u64 x114000_1, .int .u64 x114001_1, .int .u64 x114002_1, .int .u64 x114003_1] 71 (0, 0)) (by (with_reducible repeat (first | apply bkN | apply bkD | apply bkA)); exact BK113.out) hb)
                   have n4_ := aM (below_step (by repeat (first | (with_reducible first | exact HB.out | apply blA | apply blN | apply blD | refine bS ?_ GE110.out | refine bS ?_ GE111.out | refine bS ?_ GE112.out | refine bS ?_ GE113.out) | exact HB.out)) hb)
                   have n5_ := aM (hbox)
                   have n6_ := aM ((by rw [hg]; exact (below_size (by repeat (first | (with_reducible first | exact HB.out | apply blA | apply blN | apply blD | refine bS ?_ GE110.out | refine bS ?_ GE111.out | refine bS ?_ GE112.out | refine bS ?_ GE113.out) | exact HB.out))) : w.heap.size ≤ gb146))
                   have n7_ := aM ((by rw [hg]; exact (below_size (by repeat (first | (with_reducible first | exact HB.out | apply blA | apply blN | apply blD | refine bS ?_ GE110.out | refine bS ?_ GE111.out | refine bS ?_ GE112.out | refine bS ?_ GE113.out) | exact HB.out))) : w.heap.size ≤ gb146))
                   have n8_ := aM ((by rw [hg]; exact Nat.ne_of_lt (blk_lt (g := gb110) (o := .cells #[.int .i64 a0_0, .slice A0_1 l0_1.length c0_1, .slice (some ad137) l0_2.length c0_2] 25 (0, 0)) (by (with_reducible repeat (first | apply bkN | apply bkD | apply bkA)); exact BK110.out)) : gb110 ≠ gb146))
                   have n9_ := aM ((by rw [hg]; exact Nat.ne_of_gt (blk_lt (g := gb110) (o := .cells #[.int .i64 a0_0, .slice A0_1 l0_1.length c0_1, .slice (some ad137) l0_2.length c0_2] 25 (0, 0)) (by (with_reducible repeat (first | apply bkN | apply bkD | apply bkA)); exact BK110.out)) : gb146 ≠ gb110))
                   have n10_ := aM ((by rw [hg]; exact Nat.ne_of_lt (blk_lt (g := gb111) (o := .cells #[.int .u64 a2_0, .int .u64 a2_1, .int .u64 a2_2, .int .u64 a2_3] 71 (0, 0)) (by (with_reducible repeat (first | apply bkN | apply bkD | apply bkA)); exact BK111.out)) : gb111 ≠ gb146))
                   have n11_ := aM ((by rw [hg]; exact Nat.ne_of_gt (blk_lt (g := gb111) (o := .cells #[.int .u64 a2_0, .int .u64 a2_1, .int .u64 a2_2, .int .u64 a2_3] 71 (0, 0)) (by (with_reducible repeat (first | apply bkN | apply bkD | apply bkA)); exact BK111.out)) : gb146 ≠ gb111))
                   have n12_ := aM ((by rw [hg]; exact Nat.ne_of_lt (blk_lt (g := gb112) (o := .cells #[.int .u64 0, .int .u64 0, .int .u64 0, .int .u64 0] 71 (0, 0)) (by (with_reducible repeat (first | apply bkN | apply bkD | apply bkA)); exact BK112.out)) : gb112 ≠ gb146))
                   have n13_ := aM ((by rw [hg]; exact Nat.ne_of_gt (blk_lt (g := gb112) (o := .cells #[.int .u64 0, .int .u64 0, .int .u64 0, .int .u64 0] 71 (0, 0)) (by (with_reducible repeat (first | apply bkN | apply bkD | apply bkA)); exact BK112.out)) : gb146 ≠ gb112))
                   have n14_ := aM ((by rw [hg]; exact Nat.ne_of_lt (blk_lt (g := gb113) (o := .cells #[.int .u64 x114000_1, .int .u64 x114001_1, .int .u64 x114002_1, .int .u64 x114003_1] 71 (0, 0)) (by (with_reducible repeat (first | apply bkN | apply bkD | apply bkA)); exact BK113.out)) : gb113 ≠ gb146))
                   have n15_ := aM ((by rw [hg]; exact Nat.ne_of_gt (blk_lt (g := gb113) (o := .cells #[.int .u64 x114000_1, .int .u64 x114001_1, .int .u64 x114002_1, .int .u64 x114003_1] 71 (0, 0)) (by (with_reducible repeat (first | apply bkN | apply bkD | apply bkA)); exact BK113.out)) : gb146 ≠ gb113))
                   clear BK110
                   clear BK111
                   clear BK112
                   clear BK113
                   clear HB
                   have BK110 := n0_
                   have BK111 := n1_
                   have BK112 := n2_
                   have BK113 := n3_
                   have HB := n4_
                   have BK146 := n5_
                   have GW146 := n6_
                   have GE146 := n7_
                   have NB110_146 := n8_
                   have NB146_110 := n9_
                   have NB111_146 := n10_
                   have NB146_111 := n11_
                   have NB112_146 := n12_
                   have NB146_112 := n13_
                   have NB113_146 := n14_
                   have NB146_113 := n15_
                   clear n0_ n1_ n2_ n3_ n4_ n5_ n6_ n7_ n8_ n9_ n10_ n11_ n12_ n13_ n14_ n15_
                   clear hb hbox hg
                   refine hK.out _ _ ⟨gb146, (.pointer (some ⟨gb146, 0, none⟩)), (by rw [ha.out]; exact putSel_upk 7 hb_ rfl rfl rfl), (by (with_reducible repeat (first | apply bkN | apply bkD | apply bkA)); exact BK110.out), (by (with_reducible repeat (first | apply bkN | apply bkD | apply bkA)); exact BK111.out), (by (with_reducible repeat (first | apply bkN | apply bkD | apply bkA)); exact BK112.out), (by (with_reducible repeat (first | apply bkN | apply bkD | apply bkA)); exact BK113.out), (by repeat (first | (with_reducible first | exact HB.out | apply blA | apply blN | apply blD | refine bS ?_ GE110.out | refine bS ?_ GE111.out | refine bS ?_ GE112.out | refine bS ?_ GE113.out | refine bS ?_ GE146.out) | exact HB.out)), fun _ _ => (by (with_reducible repeat (first | apply bkN | apply bkD | apply bkA)); exact BK146.out), fun _ => GW146.out, fun _ => GE146.out, fun _ => NB110_146.out, fun _ => NB146_110.out, fun _ => NB111_146.out, fun _ => NB146_111.out, fun _ => NB112_146.out, fun _ => NB146_112.out, fun _ => NB113_146.out, fun _ => NB146_113.out, fun h0_ => absurd ((hoff 10 (by kernel_rfl)).symm.trans h0_) (by decide), fun _ => rfl⟩
                 refine steps_cons ?_ ?_
                 · rintro b a w' ⟨gb146, m9_, ha, Q_BK110, Q_BK111, Q_BK112, Q_BK113, Q_HB, Q_BK146, Q_GW146, Q_GE146, Q_NB110_146, Q_NB146_110, Q_NB111_146, Q_NB146_111, Q_NB112_146, Q_NB146_112, Q_NB113_146, Q_NB146_113, Q_BK146_e10, Q_X9_⟩ hb_ hon hoff
                   refine ⟨_, rfl, fun K hK => ?_⟩
                   have e14 : a.tmps[14]? = some (m9_) := by rw [ha]; exact putSel_on (e := (9, 14, m9_)) 7 rfl rfl (hon 9 (by kernel_rfl)) rfl
                   rw [Q_X9_ (hon 9 (by kernel_rfl))] at e14
                   have e81 : a.tmps[81]? = some (.agg #[.int .u64 t142, .int .u64 t143, .int .u64 t144, .int .u64 t145]) := by rw [ha]; exact putSel_on (e := (8, 81, .agg #[.int .u64 t142, .int .u64 t143, .int .u64 t144, .int .u64 t145])) 6 rfl rfl (hon 8 (by kernel_rfl)) rfl
                   replace ha := aM ha
                   have BK110 := aM Q_BK110
                   have BK111 := aM Q_BK111
                   have BK112 := aM Q_BK112
                   have BK113 := aM Q_BK113
                   have HB := aM Q_HB
                   have BK146 := aM (Q_BK146 (hon 9 (by kernel_rfl)) hb_)
                   have GW146 := aM (Q_GW146 (hon 9 (by kernel_rfl)))
                   have GE146 := aM (Q_GE146 (hon 9 (by kernel_rfl)))
                   have NB110_146 := aM (Q_NB110_146 (hon 9 (by kernel_rfl)))
                   have NB146_110 := aM (Q_NB146_110 (hon 9 (by kernel_rfl)))
                   have NB111_146 := aM (Q_NB111_146 (hon 9 (by kernel_rfl)))
                   have NB146_111 := aM (Q_NB146_111 (hon 9 (by kernel_rfl)))
                   have NB112_146 := aM (Q_NB112_146 (hon 9 (by kernel_rfl)))
                   have NB146_112 := aM (Q_NB146_112 (hon 9 (by kernel_rfl)))
                   have NB113_146 := aM (Q_NB113_146 (hon 9 (by kernel_rfl)))
                   have NB146_113 := aM (Q_NB146_113 (hon 9 (by kernel_rfl)))
                   have hs168 : w'.cell? ⟨gb146, 0, none⟩ = some (.int .u64 0) := (blk_cell BK146.out 0).trans rfl
                   have hfs168 := bF BK146.out 0
                   have hns168_0 := NB110_146.out
                   have hns168_1 := NB111_146.out
                   have hns168_2 := NB112_146.out
                   have hns168_3 := NB113_146.out
                   have hms168_0 := NB146_110.out
                   have hms168_1 := NB146_111.out
                   have hms168_2 := NB146_112.out
                   have hms168_3 := NB146_113.out
                   have hs169 : w'.cell? ⟨gb146, 1, none⟩ = some (.int .u64 0) := (blk_cell BK146.out 1).trans rfl
                   have hfs169 := bF BK146.out 1
                   have hns169_0 := NB110_146.out
                   have hns169_1 := NB111_146.out
                   have hns169_2 := NB112_146.out
                   have hns169_3 := NB113_146.out
                   have hms169_0 := NB146_110.out
                   have hms169_1 := NB146_111.out
                   have hms169_2 := NB146_112.out
                   have hms169_3 := NB146_113.out
                   have hs170 : w'.cell? ⟨gb146, 2, none⟩ = some (.int .u64 0) := (blk_cell BK146.out 2).trans rfl
                   have hfs170 := bF BK146.out 2
                   have hns170_0 := NB110_146.out
                   have hns170_1 := NB111_146.out
                   have hns170_2 := NB112_146.out
                   have hns170_3 := NB113_146.out
                   have hms170_0 := NB146_110.out
                   have hms170_1 := NB146_111.out
                   have hms170_2 := NB146_112.out
                   have hms170_3 := NB146_113.out
                   have hs171 : w'.cell? ⟨gb146, 3, none⟩ = some (.int .u64 0) := (blk_cell BK146.out 3).trans rfl
                   have hfs171 := bF BK146.out 3
                   have hns171_0 := NB110_146.out
                   have hns171_1 := NB111_146.out
                   have hns171_2 := NB112_146.out
                   have hns171_3 := NB113_146.out
                   have hms171_0 := NB146_110.out
                   have hms171_1 := NB146_111.out
                   have hms171_2 := NB146_112.out
                   have hms171_3 := NB146_113.out
                   refine skip_ (w1 := ?_) (by rfl) rfl ?_ ?_
                   rotate_left
                   · go_simp
                     rfl
                   refine hK.out _ _ ⟨gb146, m9_, (by rw [ha.out]; exact putSel_none (v := undef) rfl), (by (with_reducible repeat (first | apply bkN | apply bkD | apply bkA)); refine blk_far ?_ NB110_146.out _; (with_reducible repeat (first | apply bkN | apply bkD | apply bkA)); refine blk_far ?_ NB110_146.out _; (with_reducible repeat (first | apply bkN | apply bkD | apply bkA)); refine blk_far ?_ NB110_146.out _; (with_reducible repeat (first | apply bkN | apply bkD | apply bkA)); refine blk_far ?_ NB110_146.out _; (with_reducible repeat (first | apply bkN | apply bkD | apply bkA)); exact BK110.out), (by (with_reducible repeat (first | apply bkN | apply bkD | apply bkA)); refine blk_far ?_ NB111_146.out _; (with_reducible repeat (first | apply bkN | apply bkD | apply bkA)); refine blk_far ?_ NB111_146.out _; (with_reducible repeat (first | apply bkN | apply bkD | apply bkA)); refine blk_far ?_ NB111_146.out _; (with_reducible repeat (first | apply bkN | apply bkD | apply bkA)); refine blk_far ?_ NB111_146.out _; (with_reducible repeat (first | apply bkN | apply bkD | apply bkA)); exact BK111.out), (by (with_reducible repeat (first | apply bkN | apply bkD | apply bkA)); refine blk_far ?_ NB112_146.out _; (with_reducible repeat (first | apply bkN | apply bkD | apply bkA)); refine blk_far ?_ NB112_146.out _; (with_reducible repeat (first | apply bkN | apply bkD | apply bkA)); refine blk_far ?_ NB112_146.out _; (with_reducible repeat (first | apply bkN | apply bkD | apply bkA)); refine blk_far ?_ NB112_146.out _; (with_reducible repeat (first | apply bkN | apply bkD | apply bkA)); exact BK112.out), (by (with_reducible repeat (first | apply bkN | apply bkD | apply bkA)); refine blk_far ?_ NB113_146.out _; (with_reducible repeat (first | apply bkN | apply bkD | apply bkA)); refine blk_far ?_ NB113_146.out _; (with_reducible repeat (first | apply bkN | apply bkD | apply bkA)); refine blk_far ?_ NB113_146.out _; (with_reducible repeat (first | apply bkN | apply bkD | apply bkA)); refine blk_far ?_ NB113_146.out _; (with_reducible repeat (first | apply bkN | apply bkD | apply bkA)); exact BK113.out), (by repeat (first | (with_reducible first | exact HB.out | apply blA | apply blN | apply blD | refine bS ?_ GE110.out | refine bS ?_ GE111.out | refine bS ?_ GE112.out | refine bS ?_ GE113.out | refine bS ?_ GE146.out) | exact HB.out)), fun _ h1_ => absurd ((up_self b 10).symm.trans h1_) (by decide), fun _ => GW146.out, fun _ => GE146.out, fun _ => NB110_146.out, fun _ => NB146_110.out, fun _ => NB111_146.out, fun _ => NB146_111.out, fun _ => NB112_146.out, fun _ => NB146_112.out, fun _ => NB113_146.out, fun _ => NB146_113.out, fun _ => (by (with_reducible repeat (first | apply bkN | apply bkD | apply bkA)); refine blk_put (cs := #[.int .u64 t142, .int .u64 t143, .int .u64 t144, .int .u64 0]) ?_ 3 _ rfl; (with_reducible repeat (first | apply bkN | apply bkD | apply bkA)); refine blk_put (cs := #[.int .u64 t142, .int .u64 t143, .int .u64 0, .int .u64 0]) ?_ 2 _ rfl; (with_reducible repeat (first | apply bkN | apply bkD | apply bkA)); refine blk_put (cs := #[.int .u64 t142, .int .u64 0, .int .u64 0, .int .u64 0]) ?_ 1 _ rfl; (with_reducible repeat (first | apply bkN | apply bkD | apply bkA)); refine blk_put (cs := #[.int .u64 0, .int .u64 0, .int .u64 0, .int .u64 0]) ?_ 0 _ rfl; (with_reducible repeat (first | apply bkN | apply bkD | apply bkA)); exact BK146.out), Q_X9_⟩
                 exact steps_nil
               rintro b a w171 hall ⟨gb146, m9_, ha, Q_BK110, Q_BK111, Q_BK112, Q_BK113, Q_HB, Q_BK146, Q_GW146, Q_GE146, Q_NB110_146, Q_NB146_110, Q_NB111_146, Q_NB146_111, Q_NB112_146, Q_NB146_112, Q_NB113_146, Q_NB146_113, Q_BK146_e10, Q_X9_⟩
               clear BK110 BK111 BK112 BK113 HB
               have hb0_ := hall 0 (by kernel_rfl)
               have hb2_ := hall 2 (by kernel_rfl)
               have hb3_ := hall 3 (by kernel_rfl)
               have hb4_ := hall 4 (by kernel_rfl)
               have hb6_ := hall 6 (by kernel_rfl)
               have hb7_ := hall 7 (by kernel_rfl)
               have hb8_ := hall 8 (by kernel_rfl)
               have hb9_ := hall 9 (by kernel_rfl)
               have hb10_ := hall 10 (by kernel_rfl)
               subst ha
               obtain rfl := Q_X9_ hb9_
               simp only [putSel, hb0_, hb2_, hb3_, hb4_, hb6_, hb7_, hb8_, hb9_, hb10_, if_true, Act.put, List.setIfInBounds_toArray, List.set_cons_zero, List.set_cons_succ]
               have BK110 := aM Q_BK110
               clear Q_BK110
               have BK111 := aM Q_BK111
               clear Q_BK111
               have BK112 := aM Q_BK112
               clear Q_BK112
               have BK113 := aM Q_BK113
               clear Q_BK113
               have HB := aM Q_HB
               clear Q_HB
               clear Q_BK146
               have GW146 := aM (Q_GW146 hb9_)
               clear Q_GW146
               have GE146 := aM (Q_GE146 hb9_)
               clear Q_GE146
               have NB110_146 := aM (Q_NB110_146 hb9_)
               clear Q_NB110_146
               have NB146_110 := aM (Q_NB146_110 hb9_)
               clear Q_NB146_110
               have NB111_146 := aM (Q_NB111_146 hb9_)
               clear Q_NB111_146
               have NB146_111 := aM (Q_NB146_111 hb9_)
               clear Q_NB146_111
               have NB112_146 := aM (Q_NB112_146 hb9_)
               clear Q_NB112_146
               have NB146_112 := aM (Q_NB146_112 hb9_)
               clear Q_NB146_112
               have NB113_146 := aM (Q_NB113_146 hb9_)
               clear Q_NB113_146
               have NB146_113 := aM (Q_NB146_113 hb9_)
               clear Q_NB146_113
               have BK146 := aM (Q_BK146_e10 hb10_)
               clear Q_BK146_e10
               clear hall hb0_ hb2_ hb3_ hb4_ hb6_ hb7_ hb8_ hb9_ hb10_
               have hnb172 := NB146_110.out
               have hnc172 := NB110_146.out
               have hnb173 := NB146_111.out
               have hnc173 := NB111_146.out
               have hnb174 := NB146_112.out
               have hnc174 := NB112_146.out
               have hnb175 := NB146_113.out
               have hnc175 := NB113_146.out
               have hcz176_0 : w171.cell? ⟨gb146, 0, none⟩ = some (.int .u64 t142) := (blk_cell BK146.out 0).trans rfl
               have hcz176_1 : w171.cell? ⟨gb146, 1, none⟩ = some (.int .u64 t143) := (blk_cell BK146.out 1).trans rfl
               have hcz176_2 : w171.cell? ⟨gb146, 2, none⟩ = some (.int .u64 t144) := (blk_cell BK146.out 2).trans rfl
               have hcz176_3 : w171.cell? ⟨gb146, 3, none⟩ = some (.int .u64 t145) := (blk_cell BK146.out 3).trans rfl
               have hfz176_0 := bF BK146.out 0
               have hfz176_1 := bF BK146.out 1
               have hfz176_2 := bF BK146.out 2
               have hfz176_3 := bF BK146.out 3
               have hnb177 := NB113_110.out
               have hnc177 := NB110_113.out
               have hnb178 := NB113_111.out
               have hnc178 := NB111_113.out
               have hnb179 := NB113_112.out
               have hnc179 := NB112_113.out
               have hcz180_0 : w171.cell? ⟨gb113, 0, none⟩ = some (.int .u64 x114000_1) := (blk_cell BK113.out 0).trans rfl
               have hcz180_1 : w171.cell? ⟨gb113, 1, none⟩ = some (.int .u64 x114001_1) := (blk_cell BK113.out 1).trans rfl
               have hcz180_2 : w171.cell? ⟨gb113, 2, none⟩ = some (.int .u64 x114002_1) := (blk_cell BK113.out 2).trans rfl
               have hcz180_3 : w171.cell? ⟨gb113, 3, none⟩ = some (.int .u64 x114003_1) := (blk_cell BK113.out 3).trans rfl
               have hfz180_0 := bF BK113.out 0
               have hfz180_1 := bF BK113.out 1
               have hfz180_2 := bF BK113.out 2
               have hfz180_3 := bF BK113.out 3
               try go_wp2
               repeat (go_step3; try go_wp2_with (fail))
               go_roundg k1
               case measure => have := HK1.out; omega
               case rel => exact ⟨(t142), (t143), (t144), (t145), H', ⟨by have := HK1.out; omega⟩, ⟨by (with_reducible repeat (first | apply bkN | apply bkD | apply bkA)); refine blk_far ?_ NB110_113.out _; (with_reducible repeat (first | apply bkN | apply bkD | apply bkA)); refine blk_far ?_ NB110_113.out _; (with_reducible repeat (first | apply bkN | apply bkD | apply bkA)); refine blk_far ?_ NB110_113.out _; (with_reducible repeat (first | apply bkN | apply bkD | apply bkA)); refine blk_far ?_ NB110_113.out _; (with_reducible repeat (first | apply bkN | apply bkD | apply bkA)); exact BK110.out⟩, ⟨by (with_reducible repeat (first | apply bkN | apply bkD | apply bkA)); refine blk_far ?_ NB111_113.out _; (with_reducible repeat (first | apply bkN | apply bkD | apply bkA)); refine blk_far ?_ NB111_113.out _; (with_reducible repeat (first | apply bkN | apply bkD | apply bkA)); refine blk_far ?_ NB111_113.out _; (with_reducible repeat (first | apply bkN | apply bkD | apply bkA)); refine blk_far ?_ NB111_113.out _; (with_reducible repeat (first | apply bkN | apply bkD | apply bkA)); exact BK111.out⟩, ⟨by (with_reducible repeat (first | apply bkN | apply bkD | apply bkA)); refine blk_far ?_ NB112_113.out _; (with_reducible repeat (first | apply bkN | apply bkD | apply bkA)); refine blk_far ?_ NB112_113.out _; (with_reducible repeat (first | apply bkN | apply bkD | apply bkA)); refine blk_far ?_ NB112_113.out _; (with_reducible repeat (first | apply bkN | apply bkD | apply bkA)); refine blk_far ?_ NB112_113.out _; (with_reducible repeat (first | apply bkN | apply bkD | apply bkA)); exact BK112.out⟩, ⟨by (with_reducible repeat (first | apply bkN | apply bkD | apply bkA)); refine blk_put (cs := #[.int .u64 t142, .int .u64 t143, .int .u64 t144, .int .u64 x114003_1]) ?_ 3 _ rfl; (with_reducible repeat (first | apply bkN | apply bkD | apply bkA)); refine blk_put (cs := #[.int .u64 t142, .int .u64 t143, .int .u64 x114002_1, .int .u64 x114003_1]) ?_ 2 _ rfl; (with_reducible repeat (first | apply bkN | apply bkD | apply bkA)); refine blk_put (cs := #[.int .u64 t142, .int .u64 x114001_1, .int .u64 x114002_1, .int .u64 x114003_1]) ?_ 1 _ rfl; (with_reducible repeat (first | apply bkN | apply bkD | apply bkA)); refine blk_put (cs := #[.int .u64 x114000_1, .int .u64 x114001_1, .int .u64 x114002_1, .int .u64 x114003_1]) ?_ 0 _ rfl; (with_reducible repeat (first | apply bkN | apply bkD | apply bkA)); exact BK113.out⟩, ⟨by repeat (first | (with_reducible first | exact HB.out | apply blA | apply blN | apply blD | refine bS ?_ GE110.out | refine bS ?_ GE111.out | refine bS ?_ GE112.out | refine bS ?_ GE113.out | refine bS ?_ GE146.out) | exact HB.out)⟩⟩
           · rw [if_neg c138] at H
             exact absurd H (by simp)
       · rw [if_neg c124] at H
         have c124b0 : (a0_0 == 4) = false := beq_eq_false_iff_ne.mpr c124
         have c124b1 : (a0_0 != 4) = true := bne_iff_ne.mpr c124
         simp only [Option.some.injEq, Prod.mk.injEq] at H
         obtain ⟨rfl, rfl, rfl, rfl⟩ := H
         go_enter Try.func46, Try.ntmps46
         go_wp2_with (first | ((with_reducible refine gate_dst (N := 3) rfl ?_); refine box_event ?hg (N := 3) ?hd (cs := #[.int .i64 a0_0, .slice A0_1 l0_1.length c0_1, .slice A0_2 l0_2.length c0_2]) (t := 25) ?hr ?_; (case hd => rfl); (case hg => rfl); (case hr => first | (go_simp; done) | (go_simp; rfl)); intro gb110 hg w181 hbox hb; have n0_ := aM (below_step (by repeat (first | (with_reducible first | exact HB.out | apply blA | apply blN | apply blD) | exact HB.out)) hb); have n1_ := aM (hbox); have n2_ := aM ((by rw [hg]; exact (below_size (by repeat (first | (with_reducible first | exact HB.out | apply blA | apply blN | apply blD) | exact HB.out))) : w.heap.size ≤ gb110)); have n3_ := aM ((by rw [hg]; exact (below_size (by repeat (first | (with_reducible first | exact HB.out | apply blA | apply blN | apply blD) | exact HB.out))) : w.heap.size ≤ gb110)); clear HB; have HB := n0_; have BK110 := n1_; have GW110 := n2_; have GE110 := n3_; clear n0_ n1_ n2_ n3_; clear hb hbox hg) | ((with_reducible refine gate_dst (N := 5) rfl ?_); refine box_event ?hg (N := 5) ?hd (cs := #[.int .u64 a2_0, .int .u64 a2_1, .int .u64 a2_2, .int .u64 a2_3]) (t := 71) ?hr ?_; (case hd => rfl); (case hg => rfl); (case hr => first | (go_simp; done) | (go_simp; rfl)); intro gb111 hg w182 hbox hb; have n0_ := aM (blk_below (g := gb110) (o := .cells #[.int .i64 a0_0, .slice A0_1 l0_1.length c0_1, .slice A0_2 l0_2.length c0_2] 25 (0, 0)) (by (with_reducible repeat (first | apply bkN | apply bkD | apply bkA)); exact BK110.out) hb); have n1_ := aM (below_step (by repeat (first | (with_reducible first | exact HB.out | apply blA | apply blN | apply blD | refine bS ?_ GE110.out) | exact HB.out)) hb); have n2_ := aM (hbox); have n3_ := aM ((by rw [hg]; exact (below_size (by repeat (first | (with_reducible first | exact HB.out | apply blA | apply blN | apply blD | refine bS ?_ GE110.out) | exact HB.out))) : w.heap.size ≤ gb111)); have n4_ := aM ((by rw [hg]; exact (below_size (by repeat (first | (with_reducible first | exact HB.out | apply blA | apply blN | apply blD | refine bS ?_ GE110.out) | exact HB.out))) : w.heap.size ≤ gb111)); have n5_ := aM ((by rw [hg]; exact Nat.ne_of_lt (blk_lt (g := gb110) (o := .cells #[.int .i64 a0_0, .slice A0_1 l0_1.length c0_1, .slice A0_2 l0_2.length c0_2] 25 (0, 0)) (by (with_reducible repeat (first | apply bkN | apply bkD | apply bkA)); exact BK110.out)) : gb110 ≠ gb111)); have n6_ := aM ((by rw [hg]; exact Nat.ne_of_gt (blk_lt (g := gb110) (o := .cells #[.int .i64 a0_0, .slice A0_1 l0_1.length c0_1, .slice A0_2 l0_2.length c0_2] 25 (0, 0)) (by (with_reducible repeat (first | apply bkN | apply bkD | apply bkA)); exact BK110.out)) : gb111 ≠ gb110)); clear BK110; clear HB; have BK110 := n0_; have HB := n1_; have BK111 := n2_; have GW111 := n3_; have GE111 := n4_; have NB110_111 := n5_; have NB111_110 := n6_; clear n0_ n1_ n2_ n3_ n4_ n5_ n6_; clear hb hbox hg) | ((with_reducible refine gate_dst (N := 6) rfl ?_); refine box_event ?hg (N := 6) ?hd (cs := #[.int .u64 0, .int .u64 0, .int .u64 0, .int .u64 0]) (t := 71) ?hr ?_; (case hd => rfl); (case hg => rfl); (case hr => first | (go_simp; done) | (go_simp; rfl)); intro gb112 hg w183 hbox hb; have n0_ := aM (blk_below (g := gb110) (o := .cells #[.int .i64 a0_0, .slice A0_1 l0_1.length c0_1, .slice A0_2 l0_2.length c0_2] 25 (0, 0)) (by (with_reducible repeat (first | apply bkN | apply bkD | apply bkA)); exact BK110.out) hb); have n1_ := aM (blk_below (g := gb111) (o := .cells #[.int .u64 a2_0, .int .u64 a2_1, .int .u64 a2_2, .int .u64 a2_3] 71 (0, 0)) (by (with_reducible repeat (first | apply bkN | apply bkD | apply bkA)); exact BK111.out) hb); have n2_ := aM (below_step (by repeat (first | (with_reducible first | exact HB.out | apply blA | apply blN | apply blD | refine bS ?_ GE110.out | refine bS ?_ GE111.out) | exact HB.out)) hb); have n3_ := aM (hbox); have n4_ := aM ((by rw [hg]; exact (below_size (by repeat (first | (with_reducible first | exact HB.out | apply blA | apply blN | apply blD | refine bS ?_ GE110.out | refine bS ?_ GE111.out) | exact HB.out))) : w.heap.size ≤ gb112)); have n5_ := aM ((by rw [hg]; exact (below_size (by repeat (first | (with_reducible first | exact HB.out | apply blA | apply blN | apply blD | refine bS ?_ GE110.out | refine bS ?_ GE111.out) | exact HB.out))) : w.heap.size ≤ gb112)); have n6_ := aM ((by rw [hg]; exact Nat.ne_of_lt (blk_lt (g := gb110) (o := .cells #[.int .i64 a0_0, .slice A0_1 l0_1.length c0_1, .slice A0_2 l0_2.length c0_2] 25 (0, 0)) (by (with_reducible repeat (first | apply bkN | apply bkD | apply bkA)); exact BK110.out)) : gb110 ≠ gb112)); have n7_ := aM ((by rw [hg]; exact Nat.ne_of_gt (blk_lt (g := gb110) (o := .cells #[.int .i64 a0_0, .slice A0_1 l0_1.length c0_1, .slice A0_2 l0_2.length c0_2] 25 (0, 0)) (by (with_reducible repeat (first | apply bkN | apply bkD | apply bkA)); exact BK110.out)) : gb112 ≠ gb110)); have n8_ := aM ((by rw [hg]; exact Nat.ne_of_lt (blk_lt (g := gb111) (o := .cells #[.int .u64 a2_0, .int .u64 a2_1, .int .u64 a2_2, .int .u64 a2_3] 71 (0, 0)) (by (with_reducible repeat (first | apply bkN | apply bkD | apply bkA)); exact BK111.out)) : gb111 ≠ gb112)); have n9_ := aM ((by rw [hg]; exact Nat.ne_of_gt (blk_lt (g := gb111) (o := .cells #[.int .u64 a2_0, .int .u64 a2_1, .int .u64 a2_2, .int .u64 a2_3] 71 (0, 0)) (by (with_reducible repeat (first | apply bkN | apply bkD | apply bkA)); exact BK111.out)) : gb112 ≠ gb111)); clear BK110; clear BK111; clear HB; have BK110 := n0_; have BK111 := n1_; have HB := n2_; have BK112 := n3_; have GW112 := n4_; have GE112 := n5_; have NB110_112 := n6_; have NB112_110 := n7_; have NB111_112 := n8_; have NB112_111 := n9_; clear n0_ n1_ n2_ n3_ n4_ n5_ n6_ n7_ n8_ n9_; clear hb hbox hg) | ((with_reducible refine gate_dst (N := 7) rfl ?_); refine box_event ?hg (N := 7) ?hd (cs := #[.int .u64 0, .int .u64 0, .int .u64 0, .int .u64 0]) (t := 71) ?hr ?_; (case hd => rfl); (case hg => rfl); (case hr => first | (go_simp; done) | (go_simp; rfl)); intro gb113 hg w184 hbox hb; have n0_ := aM (blk_below (g := gb110) (o := .cells #[.int .i64 a0_0, .slice A0_1 l0_1.length c0_1, .slice A0_2 l0_2.length c0_2] 25 (0, 0)) (by (with_reducible repeat (first | apply bkN | apply bkD | apply bkA)); exact BK110.out) hb); have n1_ := aM (blk_below (g := gb111) (o := .cells #[.int .u64 a2_0, .int .u64 a2_1, .int .u64 a2_2, .int .u64 a2_3] 71 (0, 0)) (by (with_reducible repeat (first | apply bkN | apply bkD | apply bkA)); exact BK111.out) hb); have n2_ := aM (blk_below (g := gb112) (o := .cells #[.int .u64 0, .int .u64 0, .int .u64 0, .int .u64 0] 71 (0, 0)) (by (with_reducible repeat (first | apply bkN | apply bkD | apply bkA)); exact BK112.out) hb); have n3_ := aM (below_step (by repeat (first | (with_reducible first | exact HB.out | apply blA | apply blN | apply blD | refine bS ?_ GE110.out | refine bS ?_ GE111.out | refine bS ?_ GE112.out) | exact HB.out)) hb); have n4_ := aM (hbox); have n5_ := aM ((by rw [hg]; exact (below_size (by repeat (first | (with_reducible first | exact HB.out | apply blA | apply blN | apply blD | refine bS ?_ GE110.out | refine bS ?_ GE111.out | refine bS ?_ GE112.out) | exact HB.out))) : w.heap.size ≤ gb113)); have n6_ := aM ((by rw [hg]; exact (below_size (by repeat (first | (with_reducible first | exact HB.out | apply blA | apply blN | apply blD | refine bS ?_ GE110.out | refine bS ?_ GE111.out | refine bS ?_ GE112.out) | exact HB.out))) : w.heap.size ≤ gb113)); have n7_ := aM ((by rw [hg]; exact Nat.ne_of_lt (blk_lt (g := gb110) (o := .cells #[.int .i64 a0_0, .slice A0_1 l0_1.length c0_1, .slice A0_2 l0_2.length c0_2] 25 (0, 0)) (by (with_reducible repeat (first | apply bkN | apply bkD | apply bkA)); exact BK110.out)) : gb110 ≠ gb113)); have n8_ := aM ((by rw [hg]; exact Nat.ne_of_gt (blk_lt (g := gb110) (o := .cells #[.int .i64 a0_0, .slice A0_1 l0_1.length c0_1, .slice A0_2 l0_2.length c0_2] 25 (0, 0)) (by (with_reducible repeat (first | apply bkN | apply bkD | apply bkA)); exact BK110.out)) : gb113 ≠ gb110)); have n9_ := aM ((by rw [hg]; exact Nat.ne_of_lt (blk_lt (g := gb111) (o := .cells #[.int .u64 a2_0, .int .u64 a2_1, .int .u64 a2_2, .int .u64 a2_3] 71 (0, 0)) (by (with_reducible repeat (first | apply bkN | apply bkD | apply bkA)); exact BK111.out)) : gb111 ≠ gb113)); have n10_ := aM ((by rw [hg]; exact Nat.ne_of_gt (blk_lt (g := gb111) (o := .cells #[.int .u64 a2_0, .int .u64 a2_1, .int .u64 a2_2, .int .u64 a2_3] 71 (0, 0)) (by (with_reducible repeat (first | apply bkN | apply bkD | apply bkA)); exact BK111.out)) : gb113 ≠ gb111)); have n11_ := aM ((by rw [hg]; exact Nat.ne_of_lt (blk_lt (g := gb112) (o := .cells #[.int .u64 0, .int .u64 0, .int .u64 0, .int .u64 0] 71 (0, 0)) (by (with_reducible repeat (first | apply bkN | apply bkD | apply bkA)); exact BK112.out)) : gb112 ≠ gb113)); have n12_ := aM ((by rw [hg]; exact Nat.ne_of_gt (blk_lt (g := gb112) (o := .cells #[.int .u64 0, .int .u64 0, .int .u64 0, .int .u64 0] 71 (0, 0)) (by (with_reducible repeat (first | apply bkN | apply bkD | apply bkA)); exact BK112.out)) : gb113 ≠ gb112)); clear BK110; clear BK111; clear BK112; clear HB; have BK110 := n0_; have BK111 := n1_; have BK112 := n2_; have HB := n3_; have BK113 := n4_; have GW113 := n5_; have GE113 := n6_; have NB110_113 := n7_; have NB113_110 := n8_; have NB111_113 := n9_; have NB113_111 := n10_; have NB112_113 := n11_; have NB113_112 := n12_; clear n0_ n1_ n2_ n3_ n4_ n5_ n6_ n7_ n8_ n9_ n10_ n11_ n12_; clear hb hbox hg; have hnb185 := NB110_111.out; have hnc185 := NB111_110.out; have hnb186 := NB110_112.out; have hnc186 := NB112_110.out; have hnb187 := NB110_113.out; have hnc187 := NB113_110.out; have hcz188_0 : w184.cell? ⟨gb110, 0, none⟩ = some (.int .i64 a0_0) := (blk_cell BK110.out 0).trans rfl; have hcz188_1 : w184.cell? ⟨gb110, 1, none⟩ = some (.slice A0_1 l0_1.length c0_1) := (blk_cell BK110.out 1).trans rfl; have hcz188_2 : w184.cell? ⟨gb110, 2, none⟩ = some (.slice A0_2 l0_2.length c0_2) := (blk_cell BK110.out 2).trans rfl; have hfz188_0 := bF BK110.out 0; have hfz188_1 := bF BK110.out 1; have hfz188_2 := bF BK110.out 2; have hnb189 := NB113_111.out; have hnc189 := NB111_113.out; have hnb190 := NB113_112.out; have hnc190 := NB112_113.out; have hcz191_0 : w184.cell? ⟨gb113, 0, none⟩ = some (.int .u64 0) := (blk_cell BK113.out 0).trans rfl; have hcz191_1 : w184.cell? ⟨gb113, 1, none⟩ = some (.int .u64 0) := (blk_cell BK113.out 1).trans rfl; have hcz191_2 : w184.cell? ⟨gb113, 2, none⟩ = some (.int .u64 0) := (blk_cell BK113.out 2).trans rfl; have hcz191_3 : w184.cell? ⟨gb113, 3, none⟩ = some (.int .u64 0) := (blk_cell BK113.out 3).trans rfl; have hfz191_0 := bF BK113.out 0; have hfz191_1 := bF BK113.out 1; have hfz191_2 := bF BK113.out 2; have hfz191_3 := bF BK113.out 3; have hnb192 := NB112_111.out; have hnc192 := NB111_112.out; have hcz193_0 : w184.cell? ⟨gb112, 0, none⟩ = some (.int .u64 0) := (blk_cell BK112.out 0).trans rfl; have hcz193_1 : w184.cell? ⟨gb112, 1, none⟩ = some (.int .u64 0) := (blk_cell BK112.out 1).trans rfl; have hcz193_2 : w184.cell? ⟨gb112, 2, none⟩ = some (.int .u64 0) := (blk_cell BK112.out 2).trans rfl; have hcz193_3 : w184.cell? ⟨gb112, 3, none⟩ = some (.int .u64 0) := (blk_cell BK112.out 3).trans rfl; have hfz193_0 := bF BK112.out 0; have hfz193_1 := bF BK112.out 1; have hfz193_2 := bF BK112.out 2; have hfz193_3 := bF BK112.out 3))
         repeat (go_step3; try go_wp2_with (fail))
         refine bodyPost_ret (results_cell_row rfl _ _ gb112 71 #[.int .u64 0, .int .u64 0, .int .u64 0, .int .u64 0] (0, 0) _ rfl (by (with_reducible repeat (first | apply bkN | apply bkD | apply bkA)); refine blk_put (cs := #[.int .u64 0, .int .u64 0, .int .u64 0, .int .u64 0]) ?_ 3 _ rfl; (with_reducible repeat (first | apply bkN | apply bkD | apply bkA)); refine blk_put (cs := #[.int .u64 0, .int .u64 0, .int .u64 0, .int .u64 0]) ?_ 2 _ rfl; (with_reducible repeat (first | apply bkN | apply bkD | apply bkA)); refine blk_put (cs := #[.int .u64 0, .int .u64 0, .int .u64 0, .int .u64 0]) ?_ 1 _ rfl; (with_reducible repeat (first | apply bkN | apply bkD | apply bkA)); refine blk_put (cs := #[.int .u64 0, .int .u64 0, .int .u64 0, .int .u64 0]) ?_ 0 _ rfl; (with_reducible repeat (first | apply bkN | apply bkD | apply bkA)); exact BK112.out) Try.underlying71 rfl (by kernel_rfl)) rfl ?_
         exact ⟨by first | rfl | (simp [errW_none, errW_some] <;> rfl) | (simp [*, errW_none, errW_some] <;> rfl), by repeat (first | (with_reducible first | exact HB.out | apply blA | apply blN | apply blD | refine bS ?_ GE110.out | refine bS ?_ GE111.out | refine bS ?_ GE112.out | refine bS ?_ GE113.out) | exact HB.out)⟩
end Go.Proofs.Ytlkjfjlmjgkheaa.G
