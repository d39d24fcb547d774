import Derived.Test.YtlkjfjlmjgkheaaHx0
import Derived.Test.YtlkjfjlmjgkheaaHx2
import Derived.Test.YtlkjfjlmjgkheaaHx5
import Derived.Test.YtlkjfjlmjgkheaaHx6
namespace Go.Proofs.Ytlkjfjlmjgkheaa.H
open Go.RowKit Go.Proofs.YtlkjfjlmjgkheaaW.PrintWords Go.Proofs.YtlkjfjlmjgkheaaW.PrintLast Go.Proofs.YtlkjfjlmjgkheaaW.PrintMore
attribute [local go_sem] max2_int min2_int max_two min_two max_three min_three max_four min_four
set_option linter.unusedVariables false
set_option linter.unusedSimpArgs false
attribute [local go_sem high] eqA71
mutual
def pat_ends.l0 : Nat → List Int → Int → Int → Int → List (S66) → List (S25) → Int → Int → Int → Int → Int → Int → Int → Int → Option (Int × Int × Int × Int)
 | 0, _, _, _, _, _, _, _, _, _, _, _, _, _, _ => none
 | k + 1, x19, x20, x21, x116000, x116001, x116002, x117000, x117001, x117002, x117003, x119000, x119001, x119002, x119003 => if x21 < x20 then (if 0 ≤ x21 then (if x21 < (x19.length : Int) then ((pat_places_has.f x117000 x117001 x117002 x117003 x21).bind fun t120 => (if t120 = true then ((span_In.f x116001 (rd x19 x21)).bind fun t121 => (if t121 = true then ((pat_places_put.f x119000 x119001 x119002 x119003 (wrap64 (x21 + 1))).bind fun bt122 => (pat_ends.l0 k x19 x20 (wrap64 (x21 + 1)) x116000 x116001 x116002 x117000 x117001 x117002 x117003 bt122.1 bt122.2.1 bt122.2.2.1 bt122.2.2.2)) else (pat_ends.l0 k x19 x20 (wrap64 (x21 + 1)) x116000 x116001 x116002 x117000 x117001 x117002 x117003 x119000 x119001 x119002 x119003))) else (pat_ends.l0 k x19 x20 (wrap64 (x21 + 1)) x116000 x116001 x116002 x117000 x117001 x117002 x117003 x119000 x119001 x119002 x119003))) else (none)) else (none)) else (some (x119000, x119001, x119002, x119003))
def pat_ends.l1 : Nat → List Int → List (S25) → Int → Int → Int → Int → Int → Int → Option (Int × Int × Int × Int)
 | 0, _, _, _, _, _, _, _, _ => none
 | k + 1, x1, x43, x44, x45, x119000, x119001, x119002, x119003 => if x45 < x44 then (if 0 ≤ x45 then (if x45 < (x43.length : Int) then ((pat_ends.f k ((rd_T25 x43 x45).f0) ((rd_T25 x43 x45).f1) ((rd_T25 x43 x45).f2) x1 x119000 x119001 x119002 x119003).bind fun bt128 => (pat_ends.l1 k x1 x43 x44 (wrap64 (x45 + 1)) bt128.1 bt128.2.1 bt128.2.2.1 bt128.2.2.2)) else (none)) else (none)) else (some (x119000, x119001, x119002, x119003))
def pat_ends.l2 : Nat → List Int → List (S25) → Int → Int → Int → Int → Int → Int → Int → Int → Int → Int → Option (Int × Int × Int × Int)
 | 0, _, _, _, _, _, _, _, _, _, _, _, _ => none
 | k + 1, x1, x57, x58, x59, x117000, x117001, x117002, x117003, x119000, x119001, x119002, x119003 => if x59 < x58 then (if 0 ≤ x59 then (if x59 < (x57.length : Int) then ((pat_ends.f k ((rd_T25 x57 x59).f0) ((rd_T25 x57 x59).f1) ((rd_T25 x57 x59).f2) x1 x117000 x117001 x117002 x117003).bind fun bt134 => ((pat_places_with.f x119000 x119001 x119002 x119003 bt134.1 bt134.2.1 bt134.2.2.1 bt134.2.2.2).bind fun bt138 => (pat_ends.l2 k x1 x57 x58 (wrap64 (x59 + 1)) x117000 x117001 x117002 x117003 bt138.1 bt138.2.1 bt138.2.2.1 bt138.2.2.2))) else (none)) else (none)) else (some (x119000, x119001, x119002, x119003))
def pat_ends.l3 : Nat → List Int → Int → List (S66) → List (S25) → Int → Int → Int → Int → Option (Int × Int × Int × Int)
 | 0, _, _, _, _, _, _, _, _ => none
 | k + 1, x1, x116000, x116001, x116002, x119000, x119001, x119002, x119003 => if 0 < (x116002.length : Int) then ((pat_ends.f k ((rd_T25 x116002 0).f0) ((rd_T25 x116002 0).f1) ((rd_T25 x116002 0).f2) x1 x119000 x119001 x119002 x119003).bind fun bt143 => ((pat_places_with.f x119000 x119001 x119002 x119003 bt143.1 bt143.2.1 bt143.2.2.1 bt143.2.2.2).bind fun bt147 => (if (bt147.1 == x119000 && (bt147.2.1 == x119001 && (bt147.2.2.1 == x119002 && (bt147.2.2.2 == x119003)))) = true then (some (x119000, x119001, x119002, x119003)) else (pat_ends.l3 k x1 x116000 x116001 x116002 bt147.1 bt147.2.1 bt147.2.2.1 bt147.2.2.2)))) else (none)
def pat_ends.f : Nat → Int → List (S66) → List (S25) → List Int → Int → Int → Int → Int → Option (Int × Int × Int × Int)
 | 0, _, _, _, _, _, _, _, _ => none
 | k + 1, a0_0, l0_1, l0_2, l1, a2_0, a2_1, a2_2, a2_3 => if a0_0 = 1 then (pat_ends.l0 k l1 (l1.length : Int) 0 a0_0 l0_1 l0_2 a2_0 a2_1 a2_2 a2_3 0 0 0 0) else (if a0_0 = 2 then (pat_ends.l1 k l1 l0_2 (l0_2.length : Int) 0 a2_0 a2_1 a2_2 a2_3) else (if a0_0 = 3 then (pat_ends.l2 k l1 l0_2 (l0_2.length : Int) 0 a2_0 a2_1 a2_2 a2_3 0 0 0 0) else (if a0_0 = 4 then (pat_ends.l3 k l1 a0_0 l0_1 l0_2 a2_0 a2_1 a2_2 a2_3) else (some (0, 0, 0, 0)))))
end
theorem pat_ends.mono_l : ∀ k, (∀ y0 y1 y2 y3 y4 y5 y6 y7, LeO (pat_ends.f k y0 y1 y2 y3 y4 y5 y6 y7) (pat_ends.f (k + 1) y0 y1 y2 y3 y4 y5 y6 y7)) ∧ (∀ y0 y1 y2 y3 y4 y5 y6 y7 y8 y9 y10 y11 y12 y13, LeO (pat_ends.l0 k y0 y1 y2 y3 y4 y5 y6 y7 y8 y9 y10 y11 y12 y13) (pat_ends.l0 (k + 1) y0 y1 y2 y3 y4 y5 y6 y7 y8 y9 y10 y11 y12 y13)) ∧ (∀ y0 y1 y2 y3 y4 y5 y6 y7, LeO (pat_ends.l1 k y0 y1 y2 y3 y4 y5 y6 y7) (pat_ends.l1 (k + 1) y0 y1 y2 y3 y4 y5 y6 y7)) ∧ (∀ y0 y1 y2 y3 y4 y5 y6 y7 y8 y9 y10 y11, LeO (pat_ends.l2 k y0 y1 y2 y3 y4 y5 y6 y7 y8 y9 y10 y11) (pat_ends.l2 (k + 1) y0 y1 y2 y3 y4 y5 y6 y7 y8 y9 y10 y11)) ∧ (∀ y0 y1 y2 y3 y4 y5 y6 y7, LeO (pat_ends.l3 k y0 y1 y2 y3 y4 y5 y6 y7) (pat_ends.l3 (k + 1) y0 y1 y2 y3 y4 y5 y6 y7))
 | 0 => ⟨fun _ _ _ _ _ _ _ _ r h => by simp [pat_ends.f] at h, fun _ _ _ _ _ _ _ _ _ _ _ _ _ _ r h => by simp [pat_ends.l0] at h, fun _ _ _ _ _ _ _ _ r h => by simp [pat_ends.l1] at h, fun _ _ _ _ _ _ _ _ _ _ _ _ r h => by simp [pat_ends.l2] at h, fun _ _ _ _ _ _ _ _ r h => by simp [pat_ends.l3] at h⟩
 | k + 1 => by
  obtain ⟨ih0, ih1, ih2, ih3, ih4⟩ := pat_ends.mono_l k
  refine ⟨?_, ?_, ?_, ?_, ?_⟩
  · intro y0 y1 y2 y3 y4 y5 y6 y7
    unfold pat_ends.f
    repeat' first
    | (with_reducible exact ih0 _ _ _ _ _ _ _ _)
    | (with_reducible exact ih1 _ _ _ _ _ _ _ _ _ _ _ _ _ _)
    | (with_reducible exact ih2 _ _ _ _ _ _ _ _)
    | (with_reducible exact ih3 _ _ _ _ _ _ _ _ _ _ _ _)
    | (with_reducible exact ih4 _ _ _ _ _ _ _ _)
    | (with_reducible exact LeO.refl _)
    | (with_reducible exact LeO.none _)
    | (with_reducible refine LeO.ite ?_ ?_)
    | (with_reducible refine LeO.bind ?_ (fun _ => ?_))
    | exact ih0 _ _ _ _ _ _ _ _
    | exact ih1 _ _ _ _ _ _ _ _ _ _ _ _ _ _
    | exact ih2 _ _ _ _ _ _ _ _
    | exact ih3 _ _ _ _ _ _ _ _ _ _ _ _
    | exact ih4 _ _ _ _ _ _ _ _
    | exact LeO.none _
    | refine LeO.ite ?_ ?_
    | refine LeO.bind ?_ (fun _ => ?_)
  · intro y0 y1 y2 y3 y4 y5 y6 y7 y8 y9 y10 y11 y12 y13
    unfold pat_ends.l0
    repeat' first
    | (with_reducible exact ih0 _ _ _ _ _ _ _ _)
    | (with_reducible exact ih1 _ _ _ _ _ _ _ _ _ _ _ _ _ _)
    | (with_reducible exact ih2 _ _ _ _ _ _ _ _)
    | (with_reducible exact ih3 _ _ _ _ _ _ _ _ _ _ _ _)
    | (with_reducible exact ih4 _ _ _ _ _ _ _ _)
    | (with_reducible exact LeO.refl _)
    | (with_reducible exact LeO.none _)
    | (with_reducible refine LeO.ite ?_ ?_)
    | (with_reducible refine LeO.bind ?_ (fun _ => ?_))
    | exact ih0 _ _ _ _ _ _ _ _
    | exact ih1 _ _ _ _ _ _ _ _ _ _ _ _ _ _
    | exact ih2 _ _ _ _ _ _ _ _
    | exact ih3 _ _ _ _ _ _ _ _ _ _ _ _
    | exact ih4 _ _ _ _ _ _ _ _
    | exact LeO.none _
    | refine LeO.ite ?_ ?_
    | refine LeO.bind ?_ (fun _ => ?_)
  · intro y0 y1 y2 y3 y4 y5 y6 y7
    unfold pat_ends.l1
    repeat' first
    | (with_reducible exact ih0 _ _ _ _ _ _ _ _)
    | (with_reducible exact ih1 _ _ _ _ _ _ _ _ _ _ _ _ _ _)
    | (with_reducible exact ih2 _ _ _ _ _ _ _ _)
    | (with_reducible exact ih3 _ _ _ _ _ _ _ _ _ _ _ _)
    | (with_reducible exact ih4 _ _ _ _ _ _ _ _)
    | (with_reducible exact LeO.refl _)
    | (with_reducible exact LeO.none _)
    | (with_reducible refine LeO.ite ?_ ?_)
    | (with_reducible refine LeO.bind ?_ (fun _ => ?_))
    | exact ih0 _ _ _ _ _ _ _ _
    | exact ih1 _ _ _ _ _ _ _ _ _ _ _ _ _ _
    | exact ih2 _ _ _ _ _ _ _ _
    | exact ih3 _ _ _ _ _ _ _ _ _ _ _ _
    | exact ih4 _ _ _ _ _ _ _ _
    | exact LeO.none _
    | refine LeO.ite ?_ ?_
    | refine LeO.bind ?_ (fun _ => ?_)
  · intro y0 y1 y2 y3 y4 y5 y6 y7 y8 y9 y10 y11
    unfold pat_ends.l2
    repeat' first
    | (with_reducible exact ih0 _ _ _ _ _ _ _ _)
    | (with_reducible exact ih1 _ _ _ _ _ _ _ _ _ _ _ _ _ _)
    | (with_reducible exact ih2 _ _ _ _ _ _ _ _)
    | (with_reducible exact ih3 _ _ _ _ _ _ _ _ _ _ _ _)
    | (with_reducible exact ih4 _ _ _ _ _ _ _ _)
    | (with_reducible exact LeO.refl _)
    | (with_reducible exact LeO.none _)
    | (with_reducible refine LeO.ite ?_ ?_)
    | (with_reducible refine LeO.bind ?_ (fun _ => ?_))
    | exact ih0 _ _ _ _ _ _ _ _
    | exact ih1 _ _ _ _ _ _ _ _ _ _ _ _ _ _
    | exact ih2 _ _ _ _ _ _ _ _
    | exact ih3 _ _ _ _ _ _ _ _ _ _ _ _
    | exact ih4 _ _ _ _ _ _ _ _
    | exact LeO.none _
    | refine LeO.ite ?_ ?_
    | refine LeO.bind ?_ (fun _ => ?_)
  · intro y0 y1 y2 y3 y4 y5 y6 y7
    unfold pat_ends.l3
    repeat' first
    | (with_reducible exact ih0 _ _ _ _ _ _ _ _)
    | (with_reducible exact ih1 _ _ _ _ _ _ _ _ _ _ _ _ _ _)
    | (with_reducible exact ih2 _ _ _ _ _ _ _ _)
    | (with_reducible exact ih3 _ _ _ _ _ _ _ _ _ _ _ _)
    | (with_reducible exact ih4 _ _ _ _ _ _ _ _)
    | (with_reducible exact LeO.refl _)
    | (with_reducible exact LeO.none _)
    | (with_reducible refine LeO.ite ?_ ?_)
    | (with_reducible refine LeO.bind ?_ (fun _ => ?_))
    | exact ih0 _ _ _ _ _ _ _ _
    | exact ih1 _ _ _ _ _ _ _ _ _ _ _ _ _ _
    | exact ih2 _ _ _ _ _ _ _ _
    | exact ih3 _ _ _ _ _ _ _ _ _ _ _ _
    | exact ih4 _ _ _ _ _ _ _ _
    | exact LeO.none _
    | refine LeO.ite ?_ ?_
    | refine LeO.bind ?_ (fun _ => ?_)
theorem pat_ends.mono : ∀ a0 a1 a2 a3 a4 a5 a6 a7 k, LeO (pat_ends.f k a0 a1 a2 a3 a4 a5 a6 a7) (pat_ends.f (k + 1) a0 a1 a2 a3 a4 a5 a6 a7) := by
 intro a0 a1 a2 a3 a4 a5 a6 a7 k
 obtain ⟨ih0, ih1, ih2, ih3, ih4⟩ := pat_ends.mono_l k
 exact ih0 a0 a1 a2 a3 a4 a5 a6 a7
def pat_ends.T25 : Bool × List (List Nat × List Nat) := (true, [([], []), ([], []), ([1], [1]), ([2], [2]), ([3], [3]), ([], []), ([], []), ([4, 5, 6], [4, 5, 6]), ([0, 7, 7], [0, 7]), ([], []), ([9, 8, 8, 0, 1, 2, 3, 4, 5, 6, 7, 8, 9], [8, 9])])
def pat_ends.B25 : List Nat := [0, 0, 2, 6, 14, 0, 0, 126, 255, 0, 1023]
theorem pat_ends.tab25 : rtab .any (opsOf Try.f46 25) = pat_ends.T25 := by kernel_rfl
theorem pat_ends.bits25 : waitsOk pat_ends.T25.2 pat_ends.B25 = true := by kernel_rfl
set_option maxHeartbeats 8000000 in
set_option maxRecDepth 100000 in
theorem pat_ends.calls (k : Nat) : ∀ (a0_0 : Int) (A0_1 : Option Addr) (c0_1 : Nat) (l0_1 : List (S66)) (A0_2 : Option Addr) (c0_2 : Nat) (l0_2 : List (S25)) (A1 : Option Addr) (c1 : Nat) (l1 : List Int) (a2_0 : Int) (a2_1 : Int) (a2_2 : Int) (a2_3 : Int) (r1 : Int) (r2 : Int) (r3 : Int) (r4 : Int) (w : World) (hr0_1 : Kd.C k66 w A0_1 l0_1.length l0_1) (hc0_1 : l0_1.length ≤ c0_1) (hr0_2 : Kd.C k25 w A0_2 l0_2.length l0_2) (hc0_2 : l0_2.length ≤ c0_2) (hr1 : Kd.C (Kd.int .u32) w A1 l1.length l1) (hc1 : l1.length ≤ c1) (h : pat_ends.f k a0_0 l0_1 l0_2 l1 a2_0 a2_1 a2_2 a2_3 = some (r1, r2, r3, r4)),
 Calls Try.prog 46 #[.agg #[.int .i64 a0_0, .slice A0_1 l0_1.length c0_1, .slice A0_2 l0_2.length c0_2], .slice A1 l1.length c1, .agg #[.int .u64 a2_0, .int .u64 a2_1, .int .u64 a2_2, .int .u64 a2_3]] w fun e w' => e = .returned (.agg #[.int .u64 r1, .int .u64 r2, .int .u64 r3, .int .u64 r4]) ∧ Below w.heap.size w w' := by
 induction k using Nat.strongRecOn with
 | _ k ih =>
 intro a0_0 A0_1 c0_1 l0_1 A0_2 c0_2 l0_2 A1 c1 l1 a2_0 a2_1 a2_2 a2_3 r1 r2 r3 r4 w hr0_1 hc0_1 hr0_2 hc0_2 hr1 hc1 h
 cases k with
 | zero => exact absurd h (by simp [pat_ends.f])
 | succ k =>
 simp only [pat_ends.f] at h
 have hu25 := Try.underlying25
 have hu71 := Try.underlying71
 have HR0_1 := aM hr0_1
 have HC0_1 := aM hc0_1
 clear hr0_1 hc0_1
 have HR0_2 := aM hr0_2
 have HC0_2 := aM hc0_2
 clear hr0_2 hc0_2
 have HR1 := aM hr1
 have HC1 := aM hc1
 clear hr1 hc1
 have HB := aM (Below.refl w.heap.size w)
 have H : (if a0_0 = 1 then (pat_ends.l0 k l1 (l1.length : Int) 0 a0_0 l0_1 l0_2 a2_0 a2_1 a2_2 a2_3 0 0 0 0) else (if a0_0 = 2 then (pat_ends.l1 k l1 l0_2 (l0_2.length : Int) 0 a2_0 a2_1 a2_2 a2_3) else (if a0_0 = 3 then (pat_ends.l2 k l1 l0_2 (l0_2.length : Int) 0 a2_0 a2_1 a2_2 a2_3 0 0 0 0) else (if a0_0 = 4 then (pat_ends.l3 k l1 a0_0 l0_1 l0_2 a2_0 a2_1 a2_2 a2_3) else (some (0, 0, 0, 0)))))) = some (r1, r2, r3, r4) := h
 clear h
 by_cases c4 : a0_0 = 1
 · rw [if_pos c4] at H
   have c4b0 : (a0_0 == 1) = true := beq_iff_eq.mpr c4
   have c4b1 : (a0_0 != 1) = false := bne_eq_false_iff_eq.mpr c4
   clear c4
   have H' := aM H
   clear H
   go_enter Try.func46, Try.ntmps46
   go_wp2_with (first | ((with_reducible refine gate_dst (N := 3) rfl ?_); refine box_event ?hg (N := 3) ?hd (cs := #[.int .i64 a0_0, .slice A0_1 l0_1.length c0_1, .slice A0_2 l0_2.length c0_2]) (t := 25) ?hr ?_; (case hd => rfl); (case hg => rfl); (case hr => first | (go_simp; done) | (go_simp; rfl)); intro gb115 hg w5 hbox hb; have n0_ := aM (below_step (bw_ HB.out) hb); have n1_ := aM (hbox); have n2_ := aM ((by rw [hg]; exact (below_size (bw_ HB.out)) : w.heap.size ≤ gb115)); have n3_ := aM ((by rw [hg]; exact (below_size (bw_ HB.out)) : w.heap.size ≤ gb115)); clear HB; have HB := n0_; have BK115 := n1_; have GW115 := n2_; have GE115 := n3_; clear n0_ n1_ n2_ n3_; clear hb hbox hg) | ((with_reducible refine gate_dst (N := 5) rfl ?_); refine box_event ?hg (N := 5) ?hd (cs := #[.int .u64 a2_0, .int .u64 a2_1, .int .u64 a2_2, .int .u64 a2_3]) (t := 71) ?hr ?_; (case hd => rfl); (case hg => rfl); (case hr => first | (go_simp; done) | (go_simp; rfl)); intro gb116 hg w6 hbox hb; have n0_ := aM (blk_below (g := gb115) (o := .cells #[.int .i64 a0_0, .slice A0_1 l0_1.length c0_1, .slice A0_2 l0_2.length c0_2] 25 (0, 0)) (up_ BK115.out) hb); have n1_ := aM (below_step (bw_ HB.out) hb); have n2_ := aM (hbox); have n3_ := aM ((by rw [hg]; exact (below_size (bw_ HB.out)) : w.heap.size ≤ gb116)); have n4_ := aM ((by rw [hg]; exact (below_size (bw_ HB.out)) : w.heap.size ≤ gb116)); have n5_ := aM ((by rw [hg]; exact Nat.ne_of_lt (blk_lt (g := gb115) (o := .cells #[.int .i64 a0_0, .slice A0_1 l0_1.length c0_1, .slice A0_2 l0_2.length c0_2] 25 (0, 0)) (up_ BK115.out)) : gb115 ≠ gb116)); have n6_ := aM ((by rw [hg]; exact Nat.ne_of_gt (blk_lt (g := gb115) (o := .cells #[.int .i64 a0_0, .slice A0_1 l0_1.length c0_1, .slice A0_2 l0_2.length c0_2] 25 (0, 0)) (up_ BK115.out)) : gb116 ≠ gb115)); clear BK115; clear HB; have BK115 := n0_; have HB := n1_; have BK116 := n2_; have GW116 := n3_; have GE116 := n4_; have NB115_116 := n5_; have NB116_115 := n6_; clear n0_ n1_ n2_ n3_ n4_ n5_ n6_; clear hb hbox hg) | ((with_reducible refine gate_dst (N := 6) rfl ?_); refine box_event ?hg (N := 6) ?hd (cs := #[.int .u64 0, .int .u64 0, .int .u64 0, .int .u64 0]) (t := 71) ?hr ?_; (case hd => rfl); (case hg => rfl); (case hr => first | (go_simp; done) | (go_simp; rfl)); intro gb117 hg w7 hbox hb; have n0_ := aM (blk_below (g := gb115) (o := .cells #[.int .i64 a0_0, .slice A0_1 l0_1.length c0_1, .slice A0_2 l0_2.length c0_2] 25 (0, 0)) (up_ BK115.out) hb); have n1_ := aM (blk_below (g := gb116) (o := .cells #[.int .u64 a2_0, .int .u64 a2_1, .int .u64 a2_2, .int .u64 a2_3] 71 (0, 0)) (up_ BK116.out) hb); have n2_ := aM (below_step (bw_ HB.out) hb); have n3_ := aM (hbox); have n4_ := aM ((by rw [hg]; exact (below_size (bw_ HB.out)) : w.heap.size ≤ gb117)); have n5_ := aM ((by rw [hg]; exact (below_size (bw_ HB.out)) : w.heap.size ≤ gb117)); have n6_ := aM ((by rw [hg]; exact Nat.ne_of_lt (blk_lt (g := gb115) (o := .cells #[.int .i64 a0_0, .slice A0_1 l0_1.length c0_1, .slice A0_2 l0_2.length c0_2] 25 (0, 0)) (up_ BK115.out)) : gb115 ≠ gb117)); have n7_ := aM ((by rw [hg]; exact Nat.ne_of_gt (blk_lt (g := gb115) (o := .cells #[.int .i64 a0_0, .slice A0_1 l0_1.length c0_1, .slice A0_2 l0_2.length c0_2] 25 (0, 0)) (up_ BK115.out)) : gb117 ≠ gb115)); have n8_ := aM ((by rw [hg]; exact Nat.ne_of_lt (blk_lt (g := gb116) (o := .cells #[.int .u64 a2_0, .int .u64 a2_1, .int .u64 a2_2, .int .u64 a2_3] 71 (0, 0)) (up_ BK116.out)) : gb116 ≠ gb117)); have n9_ := aM ((by rw [hg]; exact Nat.ne_of_gt (blk_lt (g := gb116) (o := .cells #[.int .u64 a2_0, .int .u64 a2_1, .int .u64 a2_2, .int .u64 a2_3] 71 (0, 0)) (up_ BK116.out)) : gb117 ≠ gb116)); clear BK115; clear BK116; clear HB; have BK115 := n0_; have BK116 := n1_; have HB := n2_; have BK117 := n3_; have GW117 := n4_; have GE117 := n5_; have NB115_117 := n6_; have NB117_115 := n7_; have NB116_117 := n8_; have NB117_116 := n9_; clear n0_ n1_ n2_ n3_ n4_ n5_ n6_ n7_ n8_ n9_; clear hb hbox hg) | ((with_reducible refine gate_dst (N := 7) rfl ?_); refine box_event ?hg (N := 7) ?hd (cs := #[.int .u64 0, .int .u64 0, .int .u64 0, .int .u64 0]) (t := 71) ?hr ?_; (case hd => rfl); (case hg => rfl); (case hr => first | (go_simp; done) | (go_simp; rfl)); intro gb118 hg w8 hbox hb; have n0_ := aM (blk_below (g := gb115) (o := .cells #[.int .i64 a0_0, .slice A0_1 l0_1.length c0_1, .slice A0_2 l0_2.length c0_2] 25 (0, 0)) (up_ BK115.out) hb); have n1_ := aM (blk_below (g := gb116) (o := .cells #[.int .u64 a2_0, .int .u64 a2_1, .int .u64 a2_2, .int .u64 a2_3] 71 (0, 0)) (up_ BK116.out) hb); have n2_ := aM (blk_below (g := gb117) (o := .cells #[.int .u64 0, .int .u64 0, .int .u64 0, .int .u64 0] 71 (0, 0)) (up_ BK117.out) hb); have n3_ := aM (below_step (bw_ HB.out) hb); have n4_ := aM (hbox); have n5_ := aM ((by rw [hg]; exact (below_size (bw_ HB.out)) : w.heap.size ≤ gb118)); have n6_ := aM ((by rw [hg]; exact (below_size (bw_ HB.out)) : w.heap.size ≤ gb118)); have n7_ := aM ((by rw [hg]; exact Nat.ne_of_lt (blk_lt (g := gb115) (o := .cells #[.int .i64 a0_0, .slice A0_1 l0_1.length c0_1, .slice A0_2 l0_2.length c0_2] 25 (0, 0)) (up_ BK115.out)) : gb115 ≠ gb118)); have n8_ := aM ((by rw [hg]; exact Nat.ne_of_gt (blk_lt (g := gb115) (o := .cells #[.int .i64 a0_0, .slice A0_1 l0_1.length c0_1, .slice A0_2 l0_2.length c0_2] 25 (0, 0)) (up_ BK115.out)) : gb118 ≠ gb115)); have n9_ := aM ((by rw [hg]; exact Nat.ne_of_lt (blk_lt (g := gb116) (o := .cells #[.int .u64 a2_0, .int .u64 a2_1, .int .u64 a2_2, .int .u64 a2_3] 71 (0, 0)) (up_ BK116.out)) : gb116 ≠ gb118)); have n10_ := aM ((by rw [hg]; exact Nat.ne_of_gt (blk_lt (g := gb116) (o := .cells #[.int .u64 a2_0, .int .u64 a2_1, .int .u64 a2_2, .int .u64 a2_3] 71 (0, 0)) (up_ BK116.out)) : gb118 ≠ gb116)); have n11_ := aM ((by rw [hg]; exact Nat.ne_of_lt (blk_lt (g := gb117) (o := .cells #[.int .u64 0, .int .u64 0, .int .u64 0, .int .u64 0] 71 (0, 0)) (up_ BK117.out)) : gb117 ≠ gb118)); have n12_ := aM ((by rw [hg]; exact Nat.ne_of_gt (blk_lt (g := gb117) (o := .cells #[.int .u64 0, .int .u64 0, .int .u64 0, .int .u64 0] 71 (0, 0)) (up_ BK117.out)) : gb118 ≠ gb117)); clear BK115; clear BK116; clear BK117; clear HB; have BK115 := n0_; have BK116 := n1_; have BK117 := n2_; have HB := n3_; have BK118 := n4_; have GW118 := n5_; have GE118 := n6_; have NB115_118 := n7_; have NB118_115 := n8_; have NB116_118 := n9_; have NB118_116 := n10_; have NB117_118 := n11_; have NB118_117 := n12_; clear n0_ n1_ n2_ n3_ n4_ n5_ n6_ n7_ n8_ n9_ n10_ n11_ n12_; clear hb hbox hg; have hnb9 := NB115_116.out; have hnc9 := NB116_115.out; have hnb10 := NB115_117.out; have hnc10 := NB117_115.out; have hnb11 := NB115_118.out; have hnc11 := NB118_115.out; have hcz12_0 : w8.cell? ⟨gb115, 0, none⟩ = some (.int .i64 a0_0) := (blk_cell BK115.out 0).trans rfl; have hcz12_1 : w8.cell? ⟨gb115, 1, none⟩ = some (.slice A0_1 l0_1.length c0_1) := (blk_cell BK115.out 1).trans rfl; have hcz12_2 : w8.cell? ⟨gb115, 2, none⟩ = some (.slice A0_2 l0_2.length c0_2) := (blk_cell BK115.out 2).trans rfl; have hfz12_0 := bF BK115.out 0; have hfz12_1 := bF BK115.out 1; have hfz12_2 := bF BK115.out 2))
   repeat (go_step3; try go_wp2_with (fail))
   go_loopg [21] k (fun kq v21 w' => ∃ (x21_1 : Int) (x119000_1 : Int) (x119001_1 : Int) (x119002_1 : Int) (x119003_1 : Int), v21 = .int .i64 x21_1 ∧ Aside0 (pat_ends.l0 kq l1 (l1.length : Int) x21_1 a0_0 l0_1 l0_2 a2_0 a2_1 a2_2 a2_3 x119000_1 x119001_1 x119002_1 x119003_1 = some (r1, r2, r3, r4)) ∧ Aside0 (kq ≤ k) ∧ Aside0 (w'.heap[gb115]? = some (.cells #[.int .i64 a0_0, (.slice A0_1 l0_1.length c0_1), (.slice A0_2 l0_2.length c0_2)] 25 (0, 0))) ∧ Aside0 (w'.heap[gb116]? = some (.cells #[.int .u64 a2_0, .int .u64 a2_1, .int .u64 a2_2, .int .u64 a2_3] 71 (0, 0))) ∧ Aside0 (w'.heap[gb117]? = some (.cells #[.int .u64 0, .int .u64 0, .int .u64 0, .int .u64 0] 71 (0, 0))) ∧ Aside0 (w'.heap[gb118]? = some (.cells #[.int .u64 x119000_1, .int .u64 x119001_1, .int .u64 x119002_1, .int .u64 x119003_1] 71 (0, 0))) ∧ Aside0 (Below w.heap.size w w'))
   case atStart => exact ⟨(0), (0), (0), (0), (0), (by first | rfl | (simp; done) | (simp [*]; done)), H', ⟨Nat.le_refl _⟩, ⟨by (with_reducible repeat (first | apply bkN | apply bkD | apply bkA)); exact BK115.out⟩, ⟨by (with_reducible repeat (first | apply bkN | apply bkD | apply bkA)); exact BK116.out⟩, ⟨by (with_reducible repeat (first | apply bkN | apply bkD | apply bkA)); exact BK117.out⟩, ⟨by (with_reducible repeat (first | apply bkN | apply bkD | apply bkA)); exact BK118.out⟩, ⟨by repeat (first | (with_reducible first | exact HB.out | apply blA | apply blN | apply blD | refine bS ?_ GE115.out | refine bS ?_ GE116.out | refine bS ?_ GE117.out | refine bS ?_ GE118.out) | exact HB.out)⟩⟩
   case round =>
    clear H'
    obtain ⟨x21_1, x119000_1, x119001_1, x119002_1, x119003_1, rfl, HA, HK1, BK115, BK116, BK117, BK118, HB⟩ := hrel
    cases gk with
    | zero => exact absurd HA.out (by simp [pat_ends.l0])
    | succ k1 =>
     have H := HA.out
     clear HA
     simp only [pat_ends.l0] at H
     by_cases c13 : x21_1 < (l1.length : Int)
     · rw [if_pos c13] at H
       have c13b0 : decide (x21_1 < (l1.length : Int)) = true := decide_eq_true c13
       clear c13
       by_cases c14 : 0 ≤ x21_1
       · rw [if_pos c14] at H
         have c14b0 : decide (0 ≤ x21_1) = true := decide_eq_true c14
         clear c14
         by_cases c15 : x21_1 < (l1.length : Int)
         · rw [if_pos c15] at H
           have c15b0 : decide (x21_1 < (l1.length : Int)) = true := decide_eq_true c15
           clear c15
           replace H := Option.bind_eq_some_iff.mp H
           obtain ⟨t120, A160, H⟩ := H
           replace H : (if t120 = true then ((span_In.f l0_1 (rd l1 x21_1)).bind fun t121 => (if t121 = true then ((pat_places_put.f x119000_1 x119001_1 x119002_1 x119003_1 (wrap64 (x21_1 + 1))).bind fun bt122 => (pat_ends.l0 k1 l1 (l1.length : Int) (wrap64 (x21_1 + 1)) a0_0 l0_1 l0_2 a2_0 a2_1 a2_2 a2_3 bt122.1 bt122.2.1 bt122.2.2.1 bt122.2.2.2)) else (pat_ends.l0 k1 l1 (l1.length : Int) (wrap64 (x21_1 + 1)) a0_0 l0_1 l0_2 a2_0 a2_1 a2_2 a2_3 x119000_1 x119001_1 x119002_1 x119003_1))) else (pat_ends.l0 k1 l1 (l1.length : Int) (wrap64 (x21_1 + 1)) a0_0 l0_1 l0_2 a2_0 a2_1 a2_2 a2_3 x119000_1 x119001_1 x119002_1 x119003_1)) = some (r1, r2, r3, r4) := H
           have A16 := aM A160
           clear A160
           by_cases c17 : t120 = true
           · subst c17
             have H1 : ((span_In.f l0_1 (rd l1 x21_1)).bind fun t121 => (if t121 = true then ((pat_places_put.f x119000_1 x119001_1 x119002_1 x119003_1 (wrap64 (x21_1 + 1))).bind fun bt122 => (pat_ends.l0 k1 l1 (l1.length : Int) (wrap64 (x21_1 + 1)) a0_0 l0_1 l0_2 a2_0 a2_1 a2_2 a2_3 bt122.1 bt122.2.1 bt122.2.2.1 bt122.2.2.2)) else (pat_ends.l0 k1 l1 (l1.length : Int) (wrap64 (x21_1 + 1)) a0_0 l0_1 l0_2 a2_0 a2_1 a2_2 a2_3 x119000_1 x119001_1 x119002_1 x119003_1))) = some (r1, r2, r3, r4) := by rw [if_pos rfl] at H; exact H
             clear H
             have H := H1
             clear H1
             replace H := Option.bind_eq_some_iff.mp H
             obtain ⟨t121, A180, H⟩ := H
             replace H : (if t121 = true then ((pat_places_put.f x119000_1 x119001_1 x119002_1 x119003_1 (wrap64 (x21_1 + 1))).bind fun bt122 => (pat_ends.l0 k1 l1 (l1.length : Int) (wrap64 (x21_1 + 1)) a0_0 l0_1 l0_2 a2_0 a2_1 a2_2 a2_3 bt122.1 bt122.2.1 bt122.2.2.1 bt122.2.2.2)) else (pat_ends.l0 k1 l1 (l1.length : Int) (wrap64 (x21_1 + 1)) a0_0 l0_1 l0_2 a2_0 a2_1 a2_2 a2_3 x119000_1 x119001_1 x119002_1 x119003_1)) = some (r1, r2, r3, r4) := H
             have A18 := aM A180
             clear A180
             by_cases c19 : t121 = true
             · subst c19
               have H1 : ((pat_places_put.f x119000_1 x119001_1 x119002_1 x119003_1 (wrap64 (x21_1 + 1))).bind fun bt122 => (pat_ends.l0 k1 l1 (l1.length : Int) (wrap64 (x21_1 + 1)) a0_0 l0_1 l0_2 a2_0 a2_1 a2_2 a2_3 bt122.1 bt122.2.1 bt122.2.2.1 bt122.2.2.2)) = some (r1, r2, r3, r4) := by rw [if_pos rfl] at H; exact H
               clear H
               have H := H1
               clear H1
               replace H := Option.bind_eq_some_iff.mp H
               obtain ⟨⟨t122, t123, t124, t125⟩, A200, H⟩ := H
               replace H : (pat_ends.l0 k1 l1 (l1.length : Int) (wrap64 (x21_1 + 1)) a0_0 l0_1 l0_2 a2_0 a2_1 a2_2 a2_3 t122 t123 t124 t125) = some (r1, r2, r3, r4) := H
               have A20 := aM A200
               clear A200
               have H' := aM H
               clear H
               have p119 : 0 ≤ (x21_1 : Int) := of_decide_eq_true (by first | (with_reducible assumption) | assumption)
               have q119 : x21_1 < (l1.length : Int) := of_decide_eq_true (by first | (with_reducible assumption) | assumption)
               obtain ⟨ad119, e119, hx119_0⟩ := Kd.at_int HR1.out x21_1 p119 q119
               cases e119
               replace hx119_0 := (HB.out.cell (World.block_lt_of_cell? w _ hx119_0)).trans hx119_0
               replace p119 := eq_true p119
               replace q119 := eq_true q119
               have hnb21 := NB116_115.out
               have hnc21 := NB115_116.out
               have hnb22 := NB116_117.out
               have hnc22 := NB117_116.out
               have hnb23 := NB116_118.out
               have hnc23 := NB118_116.out
               have hcz24_0 : wr.cell? ⟨gb116, 0, none⟩ = some (.int .u64 a2_0) := (blk_cell BK116.out 0).trans rfl
               have hcz24_1 : wr.cell? ⟨gb116, 1, none⟩ = some (.int .u64 a2_1) := (blk_cell BK116.out 1).trans rfl
               have hcz24_2 : wr.cell? ⟨gb116, 2, none⟩ = some (.int .u64 a2_2) := (blk_cell BK116.out 2).trans rfl
               have hcz24_3 : wr.cell? ⟨gb116, 3, none⟩ = some (.int .u64 a2_3) := (blk_cell BK116.out 3).trans rfl
               have hfz24_0 := bF BK116.out 0
               have hfz24_1 := bF BK116.out 1
               have hfz24_2 := bF BK116.out 2
               have hfz24_3 := bF BK116.out 3
               go_wp2_with (first | ((with_reducible refine gate_callee (f := 47) rfl ?_); refine goesL_ (some 28) rfl rfl Try.func47 (by kernel_rfl) rfl #[.agg #[.int .u64 a2_0, .int .u64 a2_1, .int .u64 a2_2, .int .u64 a2_3], .int .i64 x21_1] rfl (by (try simp only [List.map_toArray, List.map_cons, List.map_nil]); first | done | rfl | (simp only [List.length_drop, List.length_take]; rfl)) ?_; (with_reducible refine (pat_places_has.calls a2_0 a2_1 a2_2 a2_3 x21_1 true _ A16.out).mono ?_); rintro e w25 ⟨rfl, hb⟩; refine ⟨_, rfl, ?_⟩; have n0_ := aM (blk_below (g := gb115) (o := .cells #[.int .i64 a0_0, .slice A0_1 l0_1.length c0_1, .slice A0_2 l0_2.length c0_2] 25 (0, 0)) (up_ BK115.out) hb); have n1_ := aM (blk_below (g := gb116) (o := .cells #[.int .u64 a2_0, .int .u64 a2_1, .int .u64 a2_2, .int .u64 a2_3] 71 (0, 0)) (up_ BK116.out) hb); have n2_ := aM (blk_below (g := gb117) (o := .cells #[.int .u64 0, .int .u64 0, .int .u64 0, .int .u64 0] 71 (0, 0)) (up_ BK117.out) hb); have n3_ := aM (blk_below (g := gb118) (o := .cells #[.int .u64 x119000_1, .int .u64 x119001_1, .int .u64 x119002_1, .int .u64 x119003_1] 71 (0, 0)) (up_ BK118.out) hb); have n4_ := aM (below_step (bw_ HB.out) hb); clear BK115; clear BK116; clear BK117; clear BK118; clear HB; have BK115 := n0_; have BK116 := n1_; have BK117 := n2_; have BK118 := n3_; have HB := n4_; clear n0_ n1_ n2_ n3_ n4_; clear hb; have hnb26 := NB115_117.out; have hnc26 := NB117_115.out; have hnb27 := NB115_118.out; have hnc27 := NB118_115.out; have hcz28_0 : w25.cell? ⟨gb115, 0, none⟩ = some (.int .i64 a0_0) := (blk_cell BK115.out 0).trans rfl; have hcz28_1 : w25.cell? ⟨gb115, 1, none⟩ = some (.slice A0_1 l0_1.length c0_1) := (blk_cell BK115.out 1).trans rfl; have hcz28_2 : w25.cell? ⟨gb115, 2, none⟩ = some (.slice A0_2 l0_2.length c0_2) := (blk_cell BK115.out 2).trans rfl; have hfz28_0 := bF BK115.out 0; have hfz28_1 := bF BK115.out 1; have hfz28_2 := bF BK115.out 2) | (go_at_call 81; (with_reducible refine (span_In.calls _ _ l0_1 (rd l1 x21_1) true _ ?side1 ?side2 A18.out).mono ?_); (case side1 => repeat (first | exact (Kd.C_below HR0_1.out HB.out) | (with_reducible refine Kd.C_alloc ?_ _) | (with_reducible refine Kd.C_drewN ?_ _) | (with_reducible refine Kd.C_drew ?_))); (case side2 => exact HC0_1.out); rintro e w29 ⟨rfl, hb⟩; have n0_ := aM (blk_below (g := gb115) (o := .cells #[.int .i64 a0_0, .slice A0_1 l0_1.length c0_1, .slice A0_2 l0_2.length c0_2] 25 (0, 0)) (up_ BK115.out) hb); have n1_ := aM (blk_below (g := gb116) (o := .cells #[.int .u64 a2_0, .int .u64 a2_1, .int .u64 a2_2, .int .u64 a2_3] 71 (0, 0)) (up_ BK116.out) hb); have n2_ := aM (blk_below (g := gb117) (o := .cells #[.int .u64 0, .int .u64 0, .int .u64 0, .int .u64 0] 71 (0, 0)) (up_ BK117.out) hb); have n3_ := aM (blk_below (g := gb118) (o := .cells #[.int .u64 x119000_1, .int .u64 x119001_1, .int .u64 x119002_1, .int .u64 x119003_1] 71 (0, 0)) (up_ BK118.out) hb); have n4_ := aM (below_step (bw_ HB.out) hb); clear BK115; clear BK116; clear BK117; clear BK118; clear HB; have BK115 := n0_; have BK116 := n1_; have BK117 := n2_; have BK118 := n3_; have HB := n4_; clear n0_ n1_ n2_ n3_ n4_; (try clear hb); (try clear hb2); (try clear hk); (try clear hi)) | ((with_reducible refine gate_callee (f := 45) rfl ?_); refine goesL_ (some 37) rfl rfl Try.func45 (by kernel_rfl) rfl #[.pointer (some ⟨gb118, 0, none⟩), .int .i64 (wrap64 (x21_1 + 1))] rfl (by (try simp only [List.map_toArray, List.map_cons, List.map_nil]); first | done | rfl | (simp only [List.length_drop, List.length_take]; rfl)) ?_; (with_reducible refine (pat_places_put.calls gb118 x119000_1 x119001_1 x119002_1 x119003_1 (wrap64 (x21_1 + 1)) t122 t123 t124 t125 w _ ?side1 ?side2 A20.out).mono ?_); (case side1 => exact ⟨(up_ BK118.out), GW118.out⟩); (case side2 => repeat (first | (with_reducible first | exact HB.out | apply blA | apply blN | apply blD | refine bS ?_ GE115.out | refine bS ?_ GE116.out | refine bS ?_ GE117.out | refine bS ?_ GE118.out) | exact HB.out)); rintro e w30 ⟨rfl, hi, hb, hk⟩; refine ⟨_, rfl, ?_⟩; have n0_ := aM (KeepBut.blk hk (g' := gb115) (o := .cells #[.int .i64 a0_0, .slice A0_1 l0_1.length c0_1, .slice A0_2 l0_2.length c0_2] 25 (0, 0)) (up_ BK115.out) NB115_118.out (by simp)); have n1_ := aM (KeepBut.blk hk (g' := gb116) (o := .cells #[.int .u64 a2_0, .int .u64 a2_1, .int .u64 a2_2, .int .u64 a2_3] 71 (0, 0)) (up_ BK116.out) NB116_118.out (by simp)); have n2_ := aM (KeepBut.blk hk (g' := gb117) (o := .cells #[.int .u64 0, .int .u64 0, .int .u64 0, .int .u64 0] 71 (0, 0)) (up_ BK117.out) NB117_118.out (by simp)); have n3_ := aM (hi.1); have n4_ := aM (hb); clear BK115; clear BK116; clear BK117; clear BK118; clear HB; have BK115 := n0_; have BK116 := n1_; have BK117 := n2_; have BK118 := n3_; have HB := n4_; clear n0_ n1_ n2_ n3_ n4_; (try clear hb); (try clear hb2); (try clear hk); (try clear hi)))
               repeat (go_step3; try go_wp2_with (fail))
               go_roundg k1
               case measure => have := HK1.out; omega
               case rel => exact ⟨(wrap64 (x21_1 + 1)), (t122), (t123), (t124), (t125), (by first | rfl | (simp; done) | (simp [*]; done)), H', ⟨by have := HK1.out; omega⟩, ⟨by (with_reducible repeat (first | apply bkN | apply bkD | apply bkA)); exact BK115.out⟩, ⟨by (with_reducible repeat (first | apply bkN | apply bkD | apply bkA)); exact BK116.out⟩, ⟨by (with_reducible repeat (first | apply bkN | apply bkD | apply bkA)); exact BK117.out⟩, ⟨by (with_reducible repeat (first | apply bkN | apply bkD | apply bkA)); exact BK118.out⟩, ⟨by repeat (first | (with_reducible first | exact HB.out | apply blA | apply blN | apply blD | refine bS ?_ GE115.out | refine bS ?_ GE116.out | refine bS ?_ GE117.out | refine bS ?_ GE118.out) | exact HB.out)⟩⟩
             · replace c19 := Bool.eq_false_iff.mpr c19
               subst c19
               have H1 : (pat_ends.l0 k1 l1 (l1.length : Int) (wrap64 (x21_1 + 1)) a0_0 l0_1 l0_2 a2_0 a2_1 a2_2 a2_3 x119000_1 x119001_1 x119002_1 x119003_1) = some (r1, r2, r3, r4) := by rw [if_neg (show ¬ (false = true) by decide)] at H; exact H
               clear H
               have H := H1
               clear H1
               have H' := aM H
               clear H
               have p119 : 0 ≤ (x21_1 : Int) := of_decide_eq_true (by first | (with_reducible assumption) | assumption)
               have q119 : x21_1 < (l1.length : Int) := of_decide_eq_true (by first | (with_reducible assumption) | assumption)
               obtain ⟨ad119, e119, hx119_0⟩ := Kd.at_int HR1.out x21_1 p119 q119
               cases e119
               replace hx119_0 := (HB.out.cell (World.block_lt_of_cell? w _ hx119_0)).trans hx119_0
               replace p119 := eq_true p119
               replace q119 := eq_true q119
               have hnb31 := NB116_115.out
               have hnc31 := NB115_116.out
               have hnb32 := NB116_117.out
               have hnc32 := NB117_116.out
               have hnb33 := NB116_118.out
               have hnc33 := NB118_116.out
               have hcz34_0 : wr.cell? ⟨gb116, 0, none⟩ = some (.int .u64 a2_0) := (blk_cell BK116.out 0).trans rfl
               have hcz34_1 : wr.cell? ⟨gb116, 1, none⟩ = some (.int .u64 a2_1) := (blk_cell BK116.out 1).trans rfl
               have hcz34_2 : wr.cell? ⟨gb116, 2, none⟩ = some (.int .u64 a2_2) := (blk_cell BK116.out 2).trans rfl
               have hcz34_3 : wr.cell? ⟨gb116, 3, none⟩ = some (.int .u64 a2_3) := (blk_cell BK116.out 3).trans rfl
               have hfz34_0 := bF BK116.out 0
               have hfz34_1 := bF BK116.out 1
               have hfz34_2 := bF BK116.out 2
               have hfz34_3 := bF BK116.out 3
               go_wp2_with (first | ((with_reducible refine gate_callee (f := 47) rfl ?_); refine goesL_ (some 28) rfl rfl Try.func47 (by kernel_rfl) rfl #[.agg #[.int .u64 a2_0, .int .u64 a2_1, .int .u64 a2_2, .int .u64 a2_3], .int .i64 x21_1] rfl (by (try simp only [List.map_toArray, List.map_cons, List.map_nil]); first | done | rfl | (simp only [List.length_drop, List.length_take]; rfl)) ?_; (with_reducible refine (pat_places_has.calls a2_0 a2_1 a2_2 a2_3 x21_1 true _ A16.out).mono ?_); rintro e w35 ⟨rfl, hb⟩; refine ⟨_, rfl, ?_⟩; have n0_ := aM (blk_below (g := gb115) (o := .cells #[.int .i64 a0_0, .slice A0_1 l0_1.length c0_1, .slice A0_2 l0_2.length c0_2] 25 (0, 0)) (up_ BK115.out) hb); have n1_ := aM (blk_below (g := gb116) (o := .cells #[.int .u64 a2_0, .int .u64 a2_1, .int .u64 a2_2, .int .u64 a2_3] 71 (0, 0)) (up_ BK116.out) hb); have n2_ := aM (blk_below (g := gb117) (o := .cells #[.int .u64 0, .int .u64 0, .int .u64 0, .int .u64 0] 71 (0, 0)) (up_ BK117.out) hb); have n3_ := aM (blk_below (g := gb118) (o := .cells #[.int .u64 x119000_1, .int .u64 x119001_1, .int .u64 x119002_1, .int .u64 x119003_1] 71 (0, 0)) (up_ BK118.out) hb); have n4_ := aM (below_step (bw_ HB.out) hb); clear BK115; clear BK116; clear BK117; clear BK118; clear HB; have BK115 := n0_; have BK116 := n1_; have BK117 := n2_; have BK118 := n3_; have HB := n4_; clear n0_ n1_ n2_ n3_ n4_; clear hb; have hnb36 := NB115_117.out; have hnc36 := NB117_115.out; have hnb37 := NB115_118.out; have hnc37 := NB118_115.out; have hcz38_0 : w35.cell? ⟨gb115, 0, none⟩ = some (.int .i64 a0_0) := (blk_cell BK115.out 0).trans rfl; have hcz38_1 : w35.cell? ⟨gb115, 1, none⟩ = some (.slice A0_1 l0_1.length c0_1) := (blk_cell BK115.out 1).trans rfl; have hcz38_2 : w35.cell? ⟨gb115, 2, none⟩ = some (.slice A0_2 l0_2.length c0_2) := (blk_cell BK115.out 2).trans rfl; have hfz38_0 := bF BK115.out 0; have hfz38_1 := bF BK115.out 1; have hfz38_2 := bF BK115.out 2) | (go_at_call 81; (with_reducible refine (span_In.calls _ _ l0_1 (rd l1 x21_1) false _ ?side1 ?side2 A18.out).mono ?_); (case side1 => repeat (first | exact (Kd.C_below HR0_1.out HB.out) | (with_reducible refine Kd.C_alloc ?_ _) | (with_reducible refine Kd.C_drewN ?_ _) | (with_reducible refine Kd.C_drew ?_))); (case side2 => exact HC0_1.out); rintro e w39 ⟨rfl, hb⟩; have n0_ := aM (blk_below (g := gb115) (o := .cells #[.int .i64 a0_0, .slice A0_1 l0_1.length c0_1, .slice A0_2 l0_2.length c0_2] 25 (0, 0)) (up_ BK115.out) hb); have n1_ := aM (blk_below (g := gb116) (o := .cells #[.int .u64 a2_0, .int .u64 a2_1, .int .u64 a2_2, .int .u64 a2_3] 71 (0, 0)) (up_ BK116.out) hb); have n2_ := aM (blk_below (g := gb117) (o := .cells #[.int .u64 0, .int .u64 0, .int .u64 0, .int .u64 0] 71 (0, 0)) (up_ BK117.out) hb); have n3_ := aM (blk_below (g := gb118) (o := .cells #[.int .u64 x119000_1, .int .u64 x119001_1, .int .u64 x119002_1, .int .u64 x119003_1] 71 (0, 0)) (up_ BK118.out) hb); have n4_ := aM (below_step (bw_ HB.out) hb); clear BK115; clear BK116; clear BK117; clear BK118; clear HB; have BK115 := n0_; have BK116 := n1_; have BK117 := n2_; have BK118 := n3_; have HB := n4_; clear n0_ n1_ n2_ n3_ n4_; (try clear hb); (try clear hb2); (try clear hk); (try clear hi)))
               repeat (go_step3; try go_wp2_with (fail))
               go_roundg k1
               case measure => have := HK1.out; omega
               case rel => exact ⟨(wrap64 (x21_1 + 1)), (x119000_1), (x119001_1), (x119002_1), (x119003_1), (by first | rfl | (simp; done) | (simp [*]; done)), H', ⟨by have := HK1.out; omega⟩, ⟨by (with_reducible repeat (first | apply bkN | apply bkD | apply bkA)); exact BK115.out⟩, ⟨by (with_reducible repeat (first | apply bkN | apply bkD | apply bkA)); exact BK116.out⟩, ⟨by (with_reducible repeat (first | apply bkN | apply bkD | apply bkA)); exact BK117.out⟩, ⟨by (with_reducible repeat (first | apply bkN | apply bkD | apply bkA)); exact BK118.out⟩, ⟨by repeat (first | (with_reducible first | exact HB.out | apply blA | apply blN | apply blD | refine bS ?_ GE115.out | refine bS ?_ GE116.out | refine bS ?_ GE117.out | refine bS ?_ GE118.out) | exact HB.out)⟩⟩
           · replace c17 := Bool.eq_false_iff.mpr c17
             subst c17
             have H1 : (pat_ends.l0 k1 l1 (l1.length : Int) (wrap64 (x21_1 + 1)) a0_0 l0_1 l0_2 a2_0 a2_1 a2_2 a2_3 x119000_1 x119001_1 x119002_1 x119003_1) = some (r1, r2, r3, r4) := by rw [if_neg (show ¬ (false = true) by decide)] at H; exact H
             clear H
             have H := H1
             clear H1
             have H' := aM H
             clear H
             have p119 : 0 ≤ (x21_1 : Int) := of_decide_eq_true (by first | (with_reducible assumption) | assumption)
             have q119 : x21_1 < (l1.length : Int) := of_decide_eq_true (by first | (with_reducible assumption) | assumption)
             obtain ⟨ad119, e119, hx119_0⟩ := Kd.at_int HR1.out x21_1 p119 q119
             cases e119
             replace hx119_0 := (HB.out.cell (World.block_lt_of_cell? w _ hx119_0)).trans hx119_0
             replace p119 := eq_true p119
             replace q119 := eq_true q119
             have hnb40 := NB116_115.out
             have hnc40 := NB115_116.out
             have hnb41 := NB116_117.out
             have hnc41 := NB117_116.out
             have hnb42 := NB116_118.out
             have hnc42 := NB118_116.out
             have hcz43_0 : wr.cell? ⟨gb116, 0, none⟩ = some (.int .u64 a2_0) := (blk_cell BK116.out 0).trans rfl
             have hcz43_1 : wr.cell? ⟨gb116, 1, none⟩ = some (.int .u64 a2_1) := (blk_cell BK116.out 1).trans rfl
             have hcz43_2 : wr.cell? ⟨gb116, 2, none⟩ = some (.int .u64 a2_2) := (blk_cell BK116.out 2).trans rfl
             have hcz43_3 : wr.cell? ⟨gb116, 3, none⟩ = some (.int .u64 a2_3) := (blk_cell BK116.out 3).trans rfl
             have hfz43_0 := bF BK116.out 0
             have hfz43_1 := bF BK116.out 1
             have hfz43_2 := bF BK116.out 2
             have hfz43_3 := bF BK116.out 3
             go_wp2_with (first | ((with_reducible refine gate_callee (f := 47) rfl ?_); refine goesL_ (some 28) rfl rfl Try.func47 (by kernel_rfl) rfl #[.agg #[.int .u64 a2_0, .int .u64 a2_1, .int .u64 a2_2, .int .u64 a2_3], .int .i64 x21_1] rfl (by (try simp only [List.map_toArray, List.map_cons, List.map_nil]); first | done | rfl | (simp only [List.length_drop, List.length_take]; rfl)) ?_; (with_reducible refine (pat_places_has.calls a2_0 a2_1 a2_2 a2_3 x21_1 false _ A16.out).mono ?_); rintro e w44 ⟨rfl, hb⟩; refine ⟨_, rfl, ?_⟩; have n0_ := aM (blk_below (g := gb115) (o := .cells #[.int .i64 a0_0, .slice A0_1 l0_1.length c0_1, .slice A0_2 l0_2.length c0_2] 25 (0, 0)) (up_ BK115.out) hb); have n1_ := aM (blk_below (g := gb116) (o := .cells #[.int .u64 a2_0, .int .u64 a2_1, .int .u64 a2_2, .int .u64 a2_3] 71 (0, 0)) (up_ BK116.out) hb); have n2_ := aM (blk_below (g := gb117) (o := .cells #[.int .u64 0, .int .u64 0, .int .u64 0, .int .u64 0] 71 (0, 0)) (up_ BK117.out) hb); have n3_ := aM (blk_below (g := gb118) (o := .cells #[.int .u64 x119000_1, .int .u64 x119001_1, .int .u64 x119002_1, .int .u64 x119003_1] 71 (0, 0)) (up_ BK118.out) hb); have n4_ := aM (below_step (bw_ HB.out) hb); clear BK115; clear BK116; clear BK117; clear BK118; clear HB; have BK115 := n0_; have BK116 := n1_; have BK117 := n2_; have BK118 := n3_; have HB := n4_; clear n0_ n1_ n2_ n3_ n4_; (try clear hb); (try clear hb2); (try clear hk); (try clear hi)))
             repeat (go_step3; try go_wp2_with (fail))
             go_roundg k1
             case measure => have := HK1.out; omega
             case rel => exact ⟨(wrap64 (x21_1 + 1)), (x119000_1), (x119001_1), (x119002_1), (x119003_1), (by first | rfl | (simp; done) | (simp [*]; done)), H', ⟨by have := HK1.out; omega⟩, ⟨by (with_reducible repeat (first | apply bkN | apply bkD | apply bkA)); exact BK115.out⟩, ⟨by (with_reducible repeat (first | apply bkN | apply bkD | apply bkA)); exact BK116.out⟩, ⟨by (with_reducible repeat (first | apply bkN | apply bkD | apply bkA)); exact BK117.out⟩, ⟨by (with_reducible repeat (first | apply bkN | apply bkD | apply bkA)); exact BK118.out⟩, ⟨by repeat (first | (with_reducible first | exact HB.out | apply blA | apply blN | apply blD | refine bS ?_ GE115.out | refine bS ?_ GE116.out | refine bS ?_ GE117.out | refine bS ?_ GE118.out) | exact HB.out)⟩⟩
         · rw [if_neg c15] at H
           exact absurd H (by simp)
       · rw [if_neg c14] at H
         exact absurd H (by simp)
     · rw [if_neg c13] at H
       have c13b0 : decide (x21_1 < (l1.length : Int)) = false := decide_eq_false c13
       clear c13
       simp only [Option.some.injEq, Prod.mk.injEq] at H
       obtain ⟨rfl, rfl, rfl, rfl⟩ := H
       have hnb45 := NB118_115.out
       have hnc45 := NB115_118.out
       have hnb46 := NB118_116.out
       have hnc46 := NB116_118.out
       have hnb47 := NB118_117.out
       have hnc47 := NB117_118.out
       have hcz48_0 : wr.cell? ⟨gb118, 0, none⟩ = some (.int .u64 x119000_1) := (blk_cell BK118.out 0).trans rfl
       have hcz48_1 : wr.cell? ⟨gb118, 1, none⟩ = some (.int .u64 x119001_1) := (blk_cell BK118.out 1).trans rfl
       have hcz48_2 : wr.cell? ⟨gb118, 2, none⟩ = some (.int .u64 x119002_1) := (blk_cell BK118.out 2).trans rfl
       have hcz48_3 : wr.cell? ⟨gb118, 3, none⟩ = some (.int .u64 x119003_1) := (blk_cell BK118.out 3).trans rfl
       have hfz48_0 := bF BK118.out 0
       have hfz48_1 := bF BK118.out 1
       have hfz48_2 := bF BK118.out 2
       have hfz48_3 := bF BK118.out 3
       have hnb49 := NB117_115.out
       have hnc49 := NB115_117.out
       have hnb50 := NB117_116.out
       have hnc50 := NB116_117.out
       have hcz51_0 : wr.cell? ⟨gb117, 0, none⟩ = some (.int .u64 0) := (blk_cell BK117.out 0).trans rfl
       have hcz51_1 : wr.cell? ⟨gb117, 1, none⟩ = some (.int .u64 0) := (blk_cell BK117.out 1).trans rfl
       have hcz51_2 : wr.cell? ⟨gb117, 2, none⟩ = some (.int .u64 0) := (blk_cell BK117.out 2).trans rfl
       have hcz51_3 : wr.cell? ⟨gb117, 3, none⟩ = some (.int .u64 0) := (blk_cell BK117.out 3).trans rfl
       have hfz51_0 := bF BK117.out 0
       have hfz51_1 := bF BK117.out 1
       have hfz51_2 := bF BK117.out 2
       have hfz51_3 := bF BK117.out 3
       go_wp2
       repeat (go_step3; try go_wp2_with (fail))
       refine bodyPost_ret (results_cell_row rfl _ _ gb117 71 #[.int .u64 x119000_1, .int .u64 x119001_1, .int .u64 x119002_1, .int .u64 x119003_1] (0, 0) _ rfl (by (with_reducible repeat (first | apply bkN | apply bkD | apply bkA)); refine blk_put (cs := #[.int .u64 x119000_1, .int .u64 x119001_1, .int .u64 x119002_1, .int .u64 0]) ?_ 3 _ rfl; (with_reducible repeat (first | apply bkN | apply bkD | apply bkA)); refine blk_put (cs := #[.int .u64 x119000_1, .int .u64 x119001_1, .int .u64 0, .int .u64 0]) ?_ 2 _ rfl; (with_reducible repeat (first | apply bkN | apply bkD | apply bkA)); refine blk_put (cs := #[.int .u64 x119000_1, .int .u64 0, .int .u64 0, .int .u64 0]) ?_ 1 _ rfl; (with_reducible repeat (first | apply bkN | apply bkD | apply bkA)); refine blk_put (cs := #[.int .u64 0, .int .u64 0, .int .u64 0, .int .u64 0]) ?_ 0 _ rfl; (with_reducible repeat (first | apply bkN | apply bkD | apply bkA)); exact BK117.out) Try.underlying71 rfl (by kernel_rfl)) rfl ?_
       exact ⟨by first | rfl | (simp [errW_none, errW_some] <;> rfl) | (simp [*, errW_none, errW_some] <;> rfl), by repeat (first | (with_reducible first | exact HB.out | apply blA | apply blN | apply blD | refine bS ?_ GE115.out | refine bS ?_ GE116.out | refine bS ?_ GE117.out | refine bS ?_ GE118.out) | exact HB.out)⟩
 · rw [if_neg c4] at H
   have c4b0 : (a0_0 == 1) = false := beq_eq_false_iff_ne.mpr c4
   have c4b1 : (a0_0 != 1) = true := bne_iff_ne.mpr c4
   by_cases c52 : a0_0 = 2
   · rw [if_pos c52] at H
     have c52b0 : (a0_0 == 2) = true := beq_iff_eq.mpr c52
     have c52b1 : (a0_0 != 2) = false := bne_eq_false_iff_eq.mpr c52
     clear c52
     have H' := aM H
     clear H
     go_enter Try.func46, Try.ntmps46
     go_wp2_with (first | ((with_reducible refine gate_dst (N := 3) rfl ?_); refine box_event ?hg (N := 3) ?hd (cs := #[.int .i64 a0_0, .slice A0_1 l0_1.length c0_1, .slice A0_2 l0_2.length c0_2]) (t := 25) ?hr ?_; (case hd => rfl); (case hg => rfl); (case hr => first | (go_simp; done) | (go_simp; rfl)); intro gb115 hg w53 hbox hb; have n0_ := aM (below_step (bw_ HB.out) hb); have n1_ := aM (hbox); have n2_ := aM ((by rw [hg]; exact (below_size (bw_ HB.out)) : w.heap.size ≤ gb115)); have n3_ := aM ((by rw [hg]; exact (below_size (bw_ HB.out)) : w.heap.size ≤ gb115)); clear HB; have HB := n0_; have BK115 := n1_; have GW115 := n2_; have GE115 := n3_; clear n0_ n1_ n2_ n3_; clear hb hbox hg) | ((with_reducible refine gate_dst (N := 5) rfl ?_); refine box_event ?hg (N := 5) ?hd (cs := #[.int .u64 a2_0, .int .u64 a2_1, .int .u64 a2_2, .int .u64 a2_3]) (t := 71) ?hr ?_; (case hd => rfl); (case hg => rfl); (case hr => first | (go_simp; done) | (go_simp; rfl)); intro gb116 hg w54 hbox hb; have n0_ := aM (blk_below (g := gb115) (o := .cells #[.int .i64 a0_0, .slice A0_1 l0_1.length c0_1, .slice A0_2 l0_2.length c0_2] 25 (0, 0)) (up_ BK115.out) hb); have n1_ := aM (below_step (bw_ HB.out) hb); have n2_ := aM (hbox); have n3_ := aM ((by rw [hg]; exact (below_size (bw_ HB.out)) : w.heap.size ≤ gb116)); have n4_ := aM ((by rw [hg]; exact (below_size (bw_ HB.out)) : w.heap.size ≤ gb116)); have n5_ := aM ((by rw [hg]; exact Nat.ne_of_lt (blk_lt (g := gb115) (o := .cells #[.int .i64 a0_0, .slice A0_1 l0_1.length c0_1, .slice A0_2 l0_2.length c0_2] 25 (0, 0)) (up_ BK115.out)) : gb115 ≠ gb116)); have n6_ := aM ((by rw [hg]; exact Nat.ne_of_gt (blk_lt (g := gb115) (o := .cells #[.int .i64 a0_0, .slice A0_1 l0_1.length c0_1, .slice A0_2 l0_2.length c0_2] 25 (0, 0)) (up_ BK115.out)) : gb116 ≠ gb115)); clear BK115; clear HB; have BK115 := n0_; have HB := n1_; have BK116 := n2_; have GW116 := n3_; have GE116 := n4_; have NB115_116 := n5_; have NB116_115 := n6_; clear n0_ n1_ n2_ n3_ n4_ n5_ n6_; clear hb hbox hg) | ((with_reducible refine gate_dst (N := 6) rfl ?_); refine box_event ?hg (N := 6) ?hd (cs := #[.int .u64 0, .int .u64 0, .int .u64 0, .int .u64 0]) (t := 71) ?hr ?_; (case hd => rfl); (case hg => rfl); (case hr => first | (go_simp; done) | (go_simp; rfl)); intro gb117 hg w55 hbox hb; have n0_ := aM (blk_below (g := gb115) (o := .cells #[.int .i64 a0_0, .slice A0_1 l0_1.length c0_1, .slice A0_2 l0_2.length c0_2] 25 (0, 0)) (up_ BK115.out) hb); have n1_ := aM (blk_below (g := gb116) (o := .cells #[.int .u64 a2_0, .int .u64 a2_1, .int .u64 a2_2, .int .u64 a2_3] 71 (0, 0)) (up_ BK116.out) hb); have n2_ := aM (below_step (bw_ HB.out) hb); have n3_ := aM (hbox); have n4_ := aM ((by rw [hg]; exact (below_size (bw_ HB.out)) : w.heap.size ≤ gb117)); have n5_ := aM ((by rw [hg]; exact (below_size (bw_ HB.out)) : w.heap.size ≤ gb117)); have n6_ := aM ((by rw [hg]; exact Nat.ne_of_lt (blk_lt (g := gb115) (o := .cells #[.int .i64 a0_0, .slice A0_1 l0_1.length c0_1, .slice A0_2 l0_2.length c0_2] 25 (0, 0)) (up_ BK115.out)) : gb115 ≠ gb117)); have n7_ := aM ((by rw [hg]; exact Nat.ne_of_gt (blk_lt (g := gb115) (o := .cells #[.int .i64 a0_0, .slice A0_1 l0_1.length c0_1, .slice A0_2 l0_2.length c0_2] 25 (0, 0)) (up_ BK115.out)) : gb117 ≠ gb115)); have n8_ := aM ((by rw [hg]; exact Nat.ne_of_lt (blk_lt (g := gb116) (o := .cells #[.int .u64 a2_0, .int .u64 a2_1, .int .u64 a2_2, .int .u64 a2_3] 71 (0, 0)) (up_ BK116.out)) : gb116 ≠ gb117)); have n9_ := aM ((by rw [hg]; exact Nat.ne_of_gt (blk_lt (g := gb116) (o := .cells #[.int .u64 a2_0, .int .u64 a2_1, .int .u64 a2_2, .int .u64 a2_3] 71 (0, 0)) (up_ BK116.out)) : gb117 ≠ gb116)); clear BK115; clear BK116; clear HB; have BK115 := n0_; have BK116 := n1_; have HB := n2_; have BK117 := n3_; have GW117 := n4_; have GE117 := n5_; have NB115_117 := n6_; have NB117_115 := n7_; have NB116_117 := n8_; have NB117_116 := n9_; clear n0_ n1_ n2_ n3_ n4_ n5_ n6_ n7_ n8_ n9_; clear hb hbox hg) | ((with_reducible refine gate_dst (N := 7) rfl ?_); refine box_event ?hg (N := 7) ?hd (cs := #[.int .u64 0, .int .u64 0, .int .u64 0, .int .u64 0]) (t := 71) ?hr ?_; (case hd => rfl); (case hg => rfl); (case hr => first | (go_simp; done) | (go_simp; rfl)); intro gb118 hg w56 hbox hb; have n0_ := aM (blk_below (g := gb115) (o := .cells #[.int .i64 a0_0, .slice A0_1 l0_1.length c0_1, .slice A0_2 l0_2.length c0_2] 25 (0, 0)) (up_ BK115.out) hb); have n1_ := aM (blk_below (g := gb116) (o := .cells #[.int .u64 a2_0, .int .u64 a2_1, .int .u64 a2_2, .int .u64 a2_3] 71 (0, 0)) (up_ BK116.out) hb); have n2_ := aM (blk_below (g := gb117) (o := .cells #[.int .u64 0, .int .u64 0, .int .u64 0, .int .u64 0] 71 (0, 0)) (up_ BK117.out) hb); have n3_ := aM (below_step (bw_ HB.out) hb); have n4_ := aM (hbox); have n5_ := aM ((by rw [hg]; exact (below_size (bw_ HB.out)) : w.heap.size ≤ gb118)); have n6_ := aM ((by rw [hg]; exact (below_size (bw_ HB.out)) : w.heap.size ≤ gb118)); have n7_ := aM ((by rw [hg]; exact Nat.ne_of_lt (blk_lt (g := gb115) (o := .cells #[.int .i64 a0_0, .slice A0_1 l0_1.length c0_1, .slice A0_2 l0_2.length c0_2] 25 (0, 0)) (up_ BK115.out)) : gb115 ≠ gb118)); have n8_ := aM ((by rw [hg]; exact Nat.ne_of_gt (blk_lt (g := gb115) (o := .cells #[.int .i64 a0_0, .slice A0_1 l0_1.length c0_1, .slice A0_2 l0_2.length c0_2] 25 (0, 0)) (up_ BK115.out)) : gb118 ≠ gb115)); have n9_ := aM ((by rw [hg]; exact Nat.ne_of_lt (blk_lt (g := gb116) (o := .cells #[.int .u64 a2_0, .int .u64 a2_1, .int .u64 a2_2, .int .u64 a2_3] 71 (0, 0)) (up_ BK116.out)) : gb116 ≠ gb118)); have n10_ := aM ((by rw [hg]; exact Nat.ne_of_gt (blk_lt (g := gb116) (o := .cells #[.int .u64 a2_0, .int .u64 a2_1, .int .u64 a2_2, .int .u64 a2_3] 71 (0, 0)) (up_ BK116.out)) : gb118 ≠ gb116)); have n11_ := aM ((by rw [hg]; exact Nat.ne_of_lt (blk_lt (g := gb117) (o := .cells #[.int .u64 0, .int .u64 0, .int .u64 0, .int .u64 0] 71 (0, 0)) (up_ BK117.out)) : gb117 ≠ gb118)); have n12_ := aM ((by rw [hg]; exact Nat.ne_of_gt (blk_lt (g := gb117) (o := .cells #[.int .u64 0, .int .u64 0, .int .u64 0, .int .u64 0] 71 (0, 0)) (up_ BK117.out)) : gb118 ≠ gb117)); clear BK115; clear BK116; clear BK117; clear HB; have BK115 := n0_; have BK116 := n1_; have BK117 := n2_; have HB := n3_; have BK118 := n4_; have GW118 := n5_; have GE118 := n6_; have NB115_118 := n7_; have NB118_115 := n8_; have NB116_118 := n9_; have NB118_116 := n10_; have NB117_118 := n11_; have NB118_117 := n12_; clear n0_ n1_ n2_ n3_ n4_ n5_ n6_ n7_ n8_ n9_ n10_ n11_ n12_; clear hb hbox hg; have hnb57 := NB115_116.out; have hnc57 := NB116_115.out; have hnb58 := NB115_117.out; have hnc58 := NB117_115.out; have hnb59 := NB115_118.out; have hnc59 := NB118_115.out; have hcz60_0 : w56.cell? ⟨gb115, 0, none⟩ = some (.int .i64 a0_0) := (blk_cell BK115.out 0).trans rfl; have hcz60_1 : w56.cell? ⟨gb115, 1, none⟩ = some (.slice A0_1 l0_1.length c0_1) := (blk_cell BK115.out 1).trans rfl; have hcz60_2 : w56.cell? ⟨gb115, 2, none⟩ = some (.slice A0_2 l0_2.length c0_2) := (blk_cell BK115.out 2).trans rfl; have hfz60_0 := bF BK115.out 0; have hfz60_1 := bF BK115.out 1; have hfz60_2 := bF BK115.out 2; have hnb61 := NB116_117.out; have hnc61 := NB117_116.out; have hnb62 := NB116_118.out; have hnc62 := NB118_116.out; have hcz63_0 : w56.cell? ⟨gb116, 0, none⟩ = some (.int .u64 a2_0) := (blk_cell BK116.out 0).trans rfl; have hcz63_1 : w56.cell? ⟨gb116, 1, none⟩ = some (.int .u64 a2_1) := (blk_cell BK116.out 1).trans rfl; have hcz63_2 : w56.cell? ⟨gb116, 2, none⟩ = some (.int .u64 a2_2) := (blk_cell BK116.out 2).trans rfl; have hcz63_3 : w56.cell? ⟨gb116, 3, none⟩ = some (.int .u64 a2_3) := (blk_cell BK116.out 3).trans rfl; have hfz63_0 := bF BK116.out 0; have hfz63_1 := bF BK116.out 1; have hfz63_2 := bF BK116.out 2; have hfz63_3 := bF BK116.out 3; have hnb64 := NB118_117.out; have hnc64 := NB117_118.out; have hcz65_0 : w56.cell? ⟨gb118, 0, none⟩ = some (.int .u64 0) := (blk_cell BK118.out 0).trans rfl; have hcz65_1 : w56.cell? ⟨gb118, 1, none⟩ = some (.int .u64 0) := (blk_cell BK118.out 1).trans rfl; have hcz65_2 : w56.cell? ⟨gb118, 2, none⟩ = some (.int .u64 0) := (blk_cell BK118.out 2).trans rfl; have hcz65_3 : w56.cell? ⟨gb118, 3, none⟩ = some (.int .u64 0) := (blk_cell BK118.out 3).trans rfl; have hfz65_0 := bF BK118.out 0; have hfz65_1 := bF BK118.out 1; have hfz65_2 := bF BK118.out 2; have hfz65_3 := bF BK118.out 3))
     repeat (go_step3; try go_wp2_with (fail))
     go_loopg [45] k (fun kq v45 w' => ∃ (x45_1 : Int) (x119000_1 : Int) (x119001_1 : Int) (x119002_1 : Int) (x119003_1 : Int), v45 = .int .i64 x45_1 ∧ Aside0 (pat_ends.l1 kq l1 l0_2 (l0_2.length : Int) x45_1 x119000_1 x119001_1 x119002_1 x119003_1 = some (r1, r2, r3, r4)) ∧ Aside0 (kq ≤ k) ∧ Aside0 (w'.heap[gb115]? = some (.cells #[.int .i64 a0_0, (.slice A0_1 l0_1.length c0_1), (.slice A0_2 l0_2.length c0_2)] 25 (0, 0))) ∧ Aside0 (w'.heap[gb116]? = some (.cells #[.int .u64 a2_0, .int .u64 a2_1, .int .u64 a2_2, .int .u64 a2_3] 71 (0, 0))) ∧ Aside0 (w'.heap[gb117]? = some (.cells #[.int .u64 0, .int .u64 0, .int .u64 0, .int .u64 0] 71 (0, 0))) ∧ Aside0 (w'.heap[gb118]? = some (.cells #[.int .u64 x119000_1, .int .u64 x119001_1, .int .u64 x119002_1, .int .u64 x119003_1] 71 (0, 0))) ∧ Aside0 (Below w.heap.size w w'))
     case atStart => exact ⟨(0), (a2_0), (a2_1), (a2_2), (a2_3), (by first | rfl | (simp; done) | (simp [*]; done)), H', ⟨Nat.le_refl _⟩, ⟨by (with_reducible repeat (first | apply bkN | apply bkD | apply bkA)); refine blk_far ?_ NB115_118.out _; (with_reducible repeat (first | apply bkN | apply bkD | apply bkA)); refine blk_far ?_ NB115_118.out _; (with_reducible repeat (first | apply bkN | apply bkD | apply bkA)); refine blk_far ?_ NB115_118.out _; (with_reducible repeat (first | apply bkN | apply bkD | apply bkA)); refine blk_far ?_ NB115_118.out _; (with_reducible repeat (first | apply bkN | apply bkD | apply bkA)); exact BK115.out⟩, ⟨by (with_reducible repeat (first | apply bkN | apply bkD | apply bkA)); refine blk_far ?_ NB116_118.out _; (with_reducible repeat (first | apply bkN | apply bkD | apply bkA)); refine blk_far ?_ NB116_118.out _; (with_reducible repeat (first | apply bkN | apply bkD | apply bkA)); refine blk_far ?_ NB116_118.out _; (with_reducible repeat (first | apply bkN | apply bkD | apply bkA)); refine blk_far ?_ NB116_118.out _; (with_reducible repeat (first | apply bkN | apply bkD | apply bkA)); exact BK116.out⟩, ⟨by (with_reducible repeat (first | apply bkN | apply bkD | apply bkA)); refine blk_far ?_ NB117_118.out _; (with_reducible repeat (first | apply bkN | apply bkD | apply bkA)); refine blk_far ?_ NB117_118.out _; (with_reducible repeat (first | apply bkN | apply bkD | apply bkA)); refine blk_far ?_ NB117_118.out _; (with_reducible repeat (first | apply bkN | apply bkD | apply bkA)); refine blk_far ?_ NB117_118.out _; (with_reducible repeat (first | apply bkN | apply bkD | apply bkA)); exact BK117.out⟩, ⟨by (with_reducible repeat (first | apply bkN | apply bkD | apply bkA)); refine blk_put (cs := #[.int .u64 a2_0, .int .u64 a2_1, .int .u64 a2_2, .int .u64 0]) ?_ 3 _ rfl; (with_reducible repeat (first | apply bkN | apply bkD | apply bkA)); refine blk_put (cs := #[.int .u64 a2_0, .int .u64 a2_1, .int .u64 0, .int .u64 0]) ?_ 2 _ rfl; (with_reducible repeat (first | apply bkN | apply bkD | apply bkA)); refine blk_put (cs := #[.int .u64 a2_0, .int .u64 0, .int .u64 0, .int .u64 0]) ?_ 1 _ rfl; (with_reducible repeat (first | apply bkN | apply bkD | apply bkA)); refine blk_put (cs := #[.int .u64 0, .int .u64 0, .int .u64 0, .int .u64 0]) ?_ 0 _ rfl; (with_reducible repeat (first | apply bkN | apply bkD | apply bkA)); exact BK118.out⟩, ⟨by repeat (first | (with_reducible first | exact HB.out | apply blA | apply blN | apply blD | refine bS ?_ GE115.out | refine bS ?_ GE116.out | refine bS ?_ GE117.out | refine bS ?_ GE118.out) | exact HB.out)⟩⟩
     case round =>
      clear H'
      obtain ⟨x45_1, x119000_1, x119001_1, x119002_1, x119003_1, rfl, HA, HK1, BK115, BK116, BK117, BK118, HB⟩ := hrel
      cases gk with
      | zero => exact absurd HA.out (by simp [pat_ends.l1])
      | succ k1 =>
       have H := HA.out
       clear HA
       simp only [pat_ends.l1] at H
       by_cases c66 : x45_1 < (l0_2.length : Int)
       · rw [if_pos c66] at H
         have c66b0 : decide (x45_1 < (l0_2.length : Int)) = true := decide_eq_true c66
         clear c66
         by_cases c67 : 0 ≤ x45_1
         · rw [if_pos c67] at H
           have c67b0 : decide (0 ≤ x45_1) = true := decide_eq_true c67
           clear c67
           by_cases c68 : x45_1 < (l0_2.length : Int)
           · rw [if_pos c68] at H
             have c68b0 : decide (x45_1 < (l0_2.length : Int)) = true := decide_eq_true c68
             clear c68
             replace H := Option.bind_eq_some_iff.mp H
             obtain ⟨⟨t128, t129, t130, t131⟩, A690, H⟩ := H
             replace H : (pat_ends.l1 k1 l1 l0_2 (l0_2.length : Int) (wrap64 (x45_1 + 1)) t128 t129 t130 t131) = some (r1, r2, r3, r4) := H
             have A69 := aM A690
             clear A690
             have H' := aM H
             clear H
             have p126 : 0 ≤ (x45_1 : Int) := of_decide_eq_true (by first | (with_reducible assumption) | assumption)
             have q126 : x45_1 < (l0_2.length : Int) := of_decide_eq_true (by first | (with_reducible assumption) | assumption)
             obtain ⟨ad126, A126_1, c126_1, A126_2, c126_2, e126, hx126_0, hx126_1, hx126_2, hl126_1, hi126_1, hl126_2, hi126_2⟩ := at_T25 HR0_2.out x45_1 p126 q126
             cases e126
             replace hx126_0 := (HB.out.cell (World.block_lt_of_cell? w _ hx126_0)).trans hx126_0
             replace hx126_1 := (HB.out.cell (World.block_lt_of_cell? w _ hx126_1)).trans hx126_1
             replace hx126_2 := (HB.out.cell (World.block_lt_of_cell? w _ hx126_2)).trans hx126_2
             have HR126_1 := aM hi126_1
             have HC126_1 := aM hl126_1
             clear hi126_1 hl126_1
             have HR126_2 := aM hi126_2
             have HC126_2 := aM hl126_2
             clear hi126_2 hl126_2
             replace p126 := eq_true p126
             replace q126 := eq_true q126
             go_wp2_with (first | ((with_reducible refine gate_dst (N := 11) rfl ?_); refine box_event ?hg (N := 11) ?hd (cs := #[.int .i64 0, .slice none 0 0, .slice none 0 0]) (t := 25) ?hr ?_; (case hd => rfl); (case hg => rfl); (case hr => first | (go_simp; done) | (go_simp; rfl)); intro gb127 hg w70 hbox hb; have n0_ := aM (blk_below (g := gb115) (o := .cells #[.int .i64 a0_0, .slice A0_1 l0_1.length c0_1, .slice (some ad126) l0_2.length c0_2] 25 (0, 0)) (up_ BK115.out) hb); have n1_ := aM (blk_below (g := gb116) (o := .cells #[.int .u64 a2_0, .int .u64 a2_1, .int .u64 a2_2, .int .u64 a2_3] 71 (0, 0)) (up_ BK116.out) hb); have n2_ := aM (blk_below (g := gb117) (o := .cells #[.int .u64 0, .int .u64 0, .int .u64 0, .int .u64 0] 71 (0, 0)) (up_ BK117.out) hb); have n3_ := aM (blk_below (g := gb118) (o := .cells #[.int .u64 x119000_1, .int .u64 x119001_1, .int .u64 x119002_1, .int .u64 x119003_1] 71 (0, 0)) (up_ BK118.out) hb); have n4_ := aM (below_step (bw_ HB.out) hb); have n5_ := aM (hbox); have n6_ := aM ((by rw [hg]; exact (below_size (bw_ HB.out)) : w.heap.size ≤ gb127)); have n7_ := aM ((by rw [hg]; exact (below_size (bw_ HB.out)) : w.heap.size ≤ gb127)); have n8_ := aM ((by rw [hg]; exact Nat.ne_of_lt (blk_lt (g := gb115) (o := .cells #[.int .i64 a0_0, .slice A0_1 l0_1.length c0_1, .slice (some ad126) l0_2.length c0_2] 25 (0, 0)) (up_ BK115.out)) : gb115 ≠ gb127)); have n9_ := aM ((by rw [hg]; exact Nat.ne_of_gt (blk_lt (g := gb115) (o := .cells #[.int .i64 a0_0, .slice A0_1 l0_1.length c0_1, .slice (some ad126) l0_2.length c0_2] 25 (0, 0)) (up_ BK115.out)) : gb127 ≠ gb115)); have n10_ := aM ((by rw [hg]; exact Nat.ne_of_lt (blk_lt (g := gb116) (o := .cells #[.int .u64 a2_0, .int .u64 a2_1, .int .u64 a2_2, .int .u64 a2_3] 71 (0, 0)) (up_ BK116.out)) : gb116 ≠ gb127)); have n11_ := aM ((by rw [hg]; exact Nat.ne_of_gt (blk_lt (g := gb116) (o := .cells #[.int .u64 a2_0, .int .u64 a2_1, .int .u64 a2_2, .int .u64 a2_3] 71 (0, 0)) (up_ BK116.out)) : gb127 ≠ gb116)); have n12_ := aM ((by rw [hg]; exact Nat.ne_of_lt (blk_lt (g := gb117) (o := .cells #[.int .u64 0, .int .u64 0, .int .u64 0, .int .u64 0] 71 (0, 0)) (up_ BK117.out)) : gb117 ≠ gb127)); have n13_ := aM ((by rw [hg]; exact Nat.ne_of_gt (blk_lt (g := gb117) (o := .cells #[.int .u64 0, .int .u64 0, .int .u64 0, .int .u64 0] 71 (0, 0)) (up_ BK117.out)) : gb127 ≠ gb117)); have n14_ := aM ((by rw [hg]; exact Nat.ne_of_lt (blk_lt (g := gb118) (o := .cells #[.int .u64 x119000_1, .int .u64 x119001_1, .int .u64 x119002_1, .int .u64 x119003_1] 71 (0, 0)) (up_ BK118.out)) : gb118 ≠ gb127)); have n15_ := aM ((by rw [hg]; exact Nat.ne_of_gt (blk_lt (g := gb118) (o := .cells #[.int .u64 x119000_1, .int .u64 x119001_1, .int .u64 x119002_1, .int .u64 x119003_1] 71 (0, 0)) (up_ BK118.out)) : gb127 ≠ gb118)); clear BK115; clear BK116; clear BK117; clear BK118; clear HB; have BK115 := n0_; have BK116 := n1_; have BK117 := n2_; have BK118 := n3_; have HB := n4_; have BK127 := n5_; have GW127 := n6_; have GE127 := n7_; have NB115_127 := n8_; have NB127_115 := n9_; have NB116_127 := n10_; have NB127_116 := n11_; have NB117_127 := n12_; have NB127_117 := n13_; have NB118_127 := n14_; have NB127_118 := n15_; clear n0_ n1_ n2_ n3_ n4_ n5_ n6_ n7_ n8_ n9_ n10_ n11_ n12_ n13_ n14_ n15_; clear hb hbox hg; have hnb71 := NB127_115.out; have hnc71 := NB115_127.out; have hnb72 := NB127_116.out; have hnc72 := NB116_127.out; have hnb73 := NB127_117.out; have hnc73 := NB117_127.out; have hnb74 := NB127_118.out; have hnc74 := NB118_127.out; have hcz75_0 : w70.cell? ⟨gb127, 0, none⟩ = some (.int .i64 0) := (blk_cell BK127.out 0).trans rfl; have hcz75_1 : w70.cell? ⟨gb127, 1, none⟩ = some (.slice none 0 0) := (blk_cell BK127.out 1).trans rfl; have hcz75_2 : w70.cell? ⟨gb127, 2, none⟩ = some (.slice none 0 0) := (blk_cell BK127.out 2).trans rfl; have hfz75_0 := bF BK127.out 0; have hfz75_1 := bF BK127.out 1; have hfz75_2 := bF BK127.out 2; have hnb76 := NB118_115.out; have hnc76 := NB115_118.out; have hnb77 := NB118_116.out; have hnc77 := NB116_118.out; have hnb78 := NB118_117.out; have hnc78 := NB117_118.out; have hcz79_0 : w70.cell? ⟨gb118, 0, none⟩ = some (.int .u64 x119000_1) := (blk_cell BK118.out 0).trans rfl; have hcz79_1 : w70.cell? ⟨gb118, 1, none⟩ = some (.int .u64 x119001_1) := (blk_cell BK118.out 1).trans rfl; have hcz79_2 : w70.cell? ⟨gb118, 2, none⟩ = some (.int .u64 x119002_1) := (blk_cell BK118.out 2).trans rfl; have hcz79_3 : w70.cell? ⟨gb118, 3, none⟩ = some (.int .u64 x119003_1) := (blk_cell BK118.out 3).trans rfl; have hfz79_0 := bF BK118.out 0; have hfz79_1 := bF BK118.out 1; have hfz79_2 := bF BK118.out 2; have hfz79_3 := bF BK118.out 3) | ((with_reducible refine gate_callee (f := 46) rfl ?_); refine goesL_ (some 52) rfl rfl Try.func46 (by kernel_rfl) rfl #[.agg #[.int .i64 ((rd_T25 l0_2 x45_1).f0), .slice A126_1 ((rd_T25 l0_2 x45_1).f1).length c126_1, .slice A126_2 ((rd_T25 l0_2 x45_1).f2).length c126_2], .slice A1 l1.length c1, .agg #[.int .u64 x119000_1, .int .u64 x119001_1, .int .u64 x119002_1, .int .u64 x119003_1]] rfl (by (try simp only [List.map_toArray, List.map_cons, List.map_nil]); first | done | rfl | (simp only [List.length_drop, List.length_take]; rfl)) ?_; (with_reducible refine (ih k1 (by have := HK1.out; omega) ((rd_T25 l0_2 x45_1).f0) _ _ ((rd_T25 l0_2 x45_1).f1) _ _ ((rd_T25 l0_2 x45_1).f2) _ _ l1 x119000_1 x119001_1 x119002_1 x119003_1 t128 t129 t130 t131 _ ?side1 ?side2 ?side3 ?side4 ?side5 ?side6 A69.out).mono ?_); (case side1 => exact Kd.C_below HR126_1.out (bw_ HB.out)); (case side2 => exact HC126_1.out); (case side3 => exact Kd.C_below HR126_2.out (bw_ HB.out)); (case side4 => exact HC126_2.out); (case side5 => exact Kd.C_below HR1.out (bw_ HB.out)); (case side6 => exact HC1.out); rintro e w80 ⟨rfl, hb⟩; refine ⟨_, rfl, ?_⟩; have n0_ := aM (blk_below (g := gb115) (o := .cells #[.int .i64 a0_0, .slice A0_1 l0_1.length c0_1, .slice (some ad126) l0_2.length c0_2] 25 (0, 0)) (by (with_reducible repeat (first | apply bkN | apply bkD | apply bkA)); refine blk_far ?_ NB115_127.out _; (with_reducible repeat (first | apply bkN | apply bkD | apply bkA)); refine blk_far ?_ NB115_127.out _; (with_reducible repeat (first | apply bkN | apply bkD | apply bkA)); refine blk_far ?_ NB115_127.out _; (with_reducible repeat (first | apply bkN | apply bkD | apply bkA)); exact BK115.out) hb); have n1_ := aM (blk_below (g := gb116) (o := .cells #[.int .u64 a2_0, .int .u64 a2_1, .int .u64 a2_2, .int .u64 a2_3] 71 (0, 0)) (by (with_reducible repeat (first | apply bkN | apply bkD | apply bkA)); refine blk_far ?_ NB116_127.out _; (with_reducible repeat (first | apply bkN | apply bkD | apply bkA)); refine blk_far ?_ NB116_127.out _; (with_reducible repeat (first | apply bkN | apply bkD | apply bkA)); refine blk_far ?_ NB116_127.out _; (with_reducible repeat (first | apply bkN | apply bkD | apply bkA)); exact BK116.out) hb); have n2_ := aM (blk_below (g := gb117) (o := .cells #[.int .u64 0, .int .u64 0, .int .u64 0, .int .u64 0] 71 (0, 0)) (by (with_reducible repeat (first | apply bkN | apply bkD | apply bkA)); refine blk_far ?_ NB117_127.out _; (with_reducible repeat (first | apply bkN | apply bkD | apply bkA)); refine blk_far ?_ NB117_127.out _; (with_reducible repeat (first | apply bkN | apply bkD | apply bkA)); refine blk_far ?_ NB117_127.out _; (with_reducible repeat (first | apply bkN | apply bkD | apply bkA)); exact BK117.out) hb); have n3_ := aM (blk_below (g := gb118) (o := .cells #[.int .u64 x119000_1, .int .u64 x119001_1, .int .u64 x119002_1, .int .u64 x119003_1] 71 (0, 0)) (by (with_reducible repeat (first | apply bkN | apply bkD | apply bkA)); refine blk_far ?_ NB118_127.out _; (with_reducible repeat (first | apply bkN | apply bkD | apply bkA)); refine blk_far ?_ NB118_127.out _; (with_reducible repeat (first | apply bkN | apply bkD | apply bkA)); refine blk_far ?_ NB118_127.out _; (with_reducible repeat (first | apply bkN | apply bkD | apply bkA)); exact BK118.out) hb); have n4_ := aM (blk_below (g := gb127) (o := .cells #[.int .i64 ((rd_T25 l0_2 x45_1).f0), .slice A126_1 ((rd_T25 l0_2 x45_1).f1).length c126_1, .slice A126_2 ((rd_T25 l0_2 x45_1).f2).length c126_2] 25 (0, 0)) (by (with_reducible repeat (first | apply bkN | apply bkD | apply bkA)); refine blk_put (cs := #[.int .i64 ((rd_T25 l0_2 x45_1).f0), .slice A126_1 ((rd_T25 l0_2 x45_1).f1).length c126_1, .slice none 0 0]) ?_ 2 _ rfl; (with_reducible repeat (first | apply bkN | apply bkD | apply bkA)); refine blk_put (cs := #[.int .i64 ((rd_T25 l0_2 x45_1).f0), .slice none 0 0, .slice none 0 0]) ?_ 1 _ rfl; (with_reducible repeat (first | apply bkN | apply bkD | apply bkA)); refine blk_put (cs := #[.int .i64 0, .slice none 0 0, .slice none 0 0]) ?_ 0 _ rfl; (with_reducible repeat (first | apply bkN | apply bkD | apply bkA)); exact BK127.out) hb); have n5_ := aM (below_step (bw_ HB.out) hb); clear BK115; clear BK116; clear BK117; clear BK118; clear BK127; clear HB; have BK115 := n0_; have BK116 := n1_; have BK117 := n2_; have BK118 := n3_; have BK127 := n4_; have HB := n5_; clear n0_ n1_ n2_ n3_ n4_ n5_; clear hb; have hcz81_0 : w80.cell? ⟨gb118, 0, none⟩ = some (.int .u64 x119000_1) := (blk_cell BK118.out 0).trans rfl; have hcz81_1 : w80.cell? ⟨gb118, 1, none⟩ = some (.int .u64 x119001_1) := (blk_cell BK118.out 1).trans rfl; have hcz81_2 : w80.cell? ⟨gb118, 2, none⟩ = some (.int .u64 x119002_1) := (blk_cell BK118.out 2).trans rfl; have hcz81_3 : w80.cell? ⟨gb118, 3, none⟩ = some (.int .u64 x119003_1) := (blk_cell BK118.out 3).trans rfl; have hfz81_0 := bF BK118.out 0; have hfz81_1 := bF BK118.out 1; have hfz81_2 := bF BK118.out 2; have hfz81_3 := bF BK118.out 3))
             repeat (go_step3; try go_wp2_with (fail))
             go_roundg k1
             case measure => have := HK1.out; omega
             case rel => exact ⟨(wrap64 (x45_1 + 1)), (t128), (t129), (t130), (t131), (by first | rfl | (simp; done) | (simp [*]; done)), H', ⟨by have := HK1.out; omega⟩, ⟨by (with_reducible repeat (first | apply bkN | apply bkD | apply bkA)); refine blk_far ?_ NB115_118.out _; (with_reducible repeat (first | apply bkN | apply bkD | apply bkA)); refine blk_far ?_ NB115_118.out _; (with_reducible repeat (first | apply bkN | apply bkD | apply bkA)); refine blk_far ?_ NB115_118.out _; (with_reducible repeat (first | apply bkN | apply bkD | apply bkA)); refine blk_far ?_ NB115_118.out _; (with_reducible repeat (first | apply bkN | apply bkD | apply bkA)); exact BK115.out⟩, ⟨by (with_reducible repeat (first | apply bkN | apply bkD | apply bkA)); refine blk_far ?_ NB116_118.out _; (with_reducible repeat (first | apply bkN | apply bkD | apply bkA)); refine blk_far ?_ NB116_118.out _; (with_reducible repeat (first | apply bkN | apply bkD | apply bkA)); refine blk_far ?_ NB116_118.out _; (with_reducible repeat (first | apply bkN | apply bkD | apply bkA)); refine blk_far ?_ NB116_118.out _; (with_reducible repeat (first | apply bkN | apply bkD | apply bkA)); exact BK116.out⟩, ⟨by (with_reducible repeat (first | apply bkN | apply bkD | apply bkA)); refine blk_far ?_ NB117_118.out _; (with_reducible repeat (first | apply bkN | apply bkD | apply bkA)); refine blk_far ?_ NB117_118.out _; (with_reducible repeat (first | apply bkN | apply bkD | apply bkA)); refine blk_far ?_ NB117_118.out _; (with_reducible repeat (first | apply bkN | apply bkD | apply bkA)); refine blk_far ?_ NB117_118.out _; (with_reducible repeat (first | apply bkN | apply bkD | apply bkA)); exact BK117.out⟩, ⟨by (with_reducible repeat (first | apply bkN | apply bkD | apply bkA)); refine blk_put (cs := #[.int .u64 t128, .int .u64 t129, .int .u64 t130, .int .u64 x119003_1]) ?_ 3 _ rfl; (with_reducible repeat (first | apply bkN | apply bkD | apply bkA)); refine blk_put (cs := #[.int .u64 t128, .int .u64 t129, .int .u64 x119002_1, .int .u64 x119003_1]) ?_ 2 _ rfl; (with_reducible repeat (first | apply bkN | apply bkD | apply bkA)); refine blk_put (cs := #[.int .u64 t128, .int .u64 x119001_1, .int .u64 x119002_1, .int .u64 x119003_1]) ?_ 1 _ rfl; (with_reducible repeat (first | apply bkN | apply bkD | apply bkA)); refine blk_put (cs := #[.int .u64 x119000_1, .int .u64 x119001_1, .int .u64 x119002_1, .int .u64 x119003_1]) ?_ 0 _ rfl; (with_reducible repeat (first | apply bkN | apply bkD | apply bkA)); exact BK118.out⟩, ⟨by repeat (first | (with_reducible first | exact HB.out | apply blA | apply blN | apply blD | refine bS ?_ GE115.out | refine bS ?_ GE116.out | refine bS ?_ GE117.out | refine bS ?_ GE118.out | refine bS ?_ GE127.out) | exact HB.out)⟩⟩
           · rw [if_neg c68] at H
             exact absurd H (by simp)
         · rw [if_neg c67] at H
           exact absurd H (by simp)
       · rw [if_neg c66] at H
         have c66b0 : decide (x45_1 < (l0_2.length : Int)) = false := decide_eq_false c66
         clear c66
         simp only [Option.some.injEq, Prod.mk.injEq] at H
         obtain ⟨rfl, rfl, rfl, rfl⟩ := H
         have hnb82 := NB118_115.out
         have hnc82 := NB115_118.out
         have hnb83 := NB118_116.out
         have hnc83 := NB116_118.out
         have hnb84 := NB118_117.out
         have hnc84 := NB117_118.out
         have hcz85_0 : wr.cell? ⟨gb118, 0, none⟩ = some (.int .u64 x119000_1) := (blk_cell BK118.out 0).trans rfl
         have hcz85_1 : wr.cell? ⟨gb118, 1, none⟩ = some (.int .u64 x119001_1) := (blk_cell BK118.out 1).trans rfl
         have hcz85_2 : wr.cell? ⟨gb118, 2, none⟩ = some (.int .u64 x119002_1) := (blk_cell BK118.out 2).trans rfl
         have hcz85_3 : wr.cell? ⟨gb118, 3, none⟩ = some (.int .u64 x119003_1) := (blk_cell BK118.out 3).trans rfl
         have hfz85_0 := bF BK118.out 0
         have hfz85_1 := bF BK118.out 1
         have hfz85_2 := bF BK118.out 2
         have hfz85_3 := bF BK118.out 3
         have hnb86 := NB117_115.out
         have hnc86 := NB115_117.out
         have hnb87 := NB117_116.out
         have hnc87 := NB116_117.out
         have hcz88_0 : wr.cell? ⟨gb117, 0, none⟩ = some (.int .u64 0) := (blk_cell BK117.out 0).trans rfl
         have hcz88_1 : wr.cell? ⟨gb117, 1, none⟩ = some (.int .u64 0) := (blk_cell BK117.out 1).trans rfl
         have hcz88_2 : wr.cell? ⟨gb117, 2, none⟩ = some (.int .u64 0) := (blk_cell BK117.out 2).trans rfl
         have hcz88_3 : wr.cell? ⟨gb117, 3, none⟩ = some (.int .u64 0) := (blk_cell BK117.out 3).trans rfl
         have hfz88_0 := bF BK117.out 0
         have hfz88_1 := bF BK117.out 1
         have hfz88_2 := bF BK117.out 2
         have hfz88_3 := bF BK117.out 3
         go_wp2
         repeat (go_step3; try go_wp2_with (fail))
         refine bodyPost_ret (results_cell_row rfl _ _ gb117 71 #[.int .u64 x119000_1, .int .u64 x119001_1, .int .u64 x119002_1, .int .u64 x119003_1] (0, 0) _ rfl (by (with_reducible repeat (first | apply bkN | apply bkD | apply bkA)); refine blk_put (cs := #[.int .u64 x119000_1, .int .u64 x119001_1, .int .u64 x119002_1, .int .u64 0]) ?_ 3 _ rfl; (with_reducible repeat (first | apply bkN | apply bkD | apply bkA)); refine blk_put (cs := #[.int .u64 x119000_1, .int .u64 x119001_1, .int .u64 0, .int .u64 0]) ?_ 2 _ rfl; (with_reducible repeat (first | apply bkN | apply bkD | apply bkA)); refine blk_put (cs := #[.int .u64 x119000_1, .int .u64 0, .int .u64 0, .int .u64 0]) ?_ 1 _ rfl; (with_reducible repeat (first | apply bkN | apply bkD | apply bkA)); refine blk_put (cs := #[.int .u64 0, .int .u64 0, .int .u64 0, .int .u64 0]) ?_ 0 _ rfl; (with_reducible repeat (first | apply bkN | apply bkD | apply bkA)); exact BK117.out) Try.underlying71 rfl (by kernel_rfl)) rfl ?_
         exact ⟨by first | rfl | (simp [errW_none, errW_some] <;> rfl) | (simp [*, errW_none, errW_some] <;> rfl), by repeat (first | (with_reducible first | exact HB.out | apply blA | apply blN | apply blD | refine bS ?_ GE115.out | refine bS ?_ GE116.out | refine bS ?_ GE117.out | refine bS ?_ GE118.out) | exact HB.out)⟩
   · rw [if_neg c52] at H
     have c52b0 : (a0_0 == 2) = false := beq_eq_false_iff_ne.mpr c52
     have c52b1 : (a0_0 != 2) = true := bne_iff_ne.mpr c52
     by_cases c89 : a0_0 = 3
     · rw [if_pos c89] at H
       have c89b0 : (a0_0 == 3) = true := beq_iff_eq.mpr c89
       have c89b1 : (a0_0 != 3) = false := bne_eq_false_iff_eq.mpr c89
       clear c89
       have H' := aM H
       clear H
       go_enter Try.func46, Try.ntmps46
       go_wp2_with (first | ((with_reducible refine gate_dst (N := 3) rfl ?_); refine box_event ?hg (N := 3) ?hd (cs := #[.int .i64 a0_0, .slice A0_1 l0_1.length c0_1, .slice A0_2 l0_2.length c0_2]) (t := 25) ?hr ?_; (case hd => rfl); (case hg => rfl); (case hr => first | (go_simp; done) | (go_simp; rfl)); intro gb115 hg w90 hbox hb; have n0_ := aM (below_step (bw_ HB.out) hb); have n1_ := aM (hbox); have n2_ := aM ((by rw [hg]; exact (below_size (bw_ HB.out)) : w.heap.size ≤ gb115)); have n3_ := aM ((by rw [hg]; exact (below_size (bw_ HB.out)) : w.heap.size ≤ gb115)); clear HB; have HB := n0_; have BK115 := n1_; have GW115 := n2_; have GE115 := n3_; clear n0_ n1_ n2_ n3_; clear hb hbox hg) | ((with_reducible refine gate_dst (N := 5) rfl ?_); refine box_event ?hg (N := 5) ?hd (cs := #[.int .u64 a2_0, .int .u64 a2_1, .int .u64 a2_2, .int .u64 a2_3]) (t := 71) ?hr ?_; (case hd => rfl); (case hg => rfl); (case hr => first | (go_simp; done) | (go_simp; rfl)); intro gb116 hg w91 hbox hb; have n0_ := aM (blk_below (g := gb115) (o := .cells #[.int .i64 a0_0, .slice A0_1 l0_1.length c0_1, .slice A0_2 l0_2.length c0_2] 25 (0, 0)) (up_ BK115.out) hb); have n1_ := aM (below_step (bw_ HB.out) hb); have n2_ := aM (hbox); have n3_ := aM ((by rw [hg]; exact (below_size (bw_ HB.out)) : w.heap.size ≤ gb116)); have n4_ := aM ((by rw [hg]; exact (below_size (bw_ HB.out)) : w.heap.size ≤ gb116)); have n5_ := aM ((by rw [hg]; exact Nat.ne_of_lt (blk_lt (g := gb115) (o := .cells #[.int .i64 a0_0, .slice A0_1 l0_1.length c0_1, .slice A0_2 l0_2.length c0_2] 25 (0, 0)) (up_ BK115.out)) : gb115 ≠ gb116)); have n6_ := aM ((by rw [hg]; exact Nat.ne_of_gt (blk_lt (g := gb115) (o := .cells #[.int .i64 a0_0, .slice A0_1 l0_1.length c0_1, .slice A0_2 l0_2.length c0_2] 25 (0, 0)) (up_ BK115.out)) : gb116 ≠ gb115)); clear BK115; clear HB; have BK115 := n0_; have HB := n1_; have BK116 := n2_; have GW116 := n3_; have GE116 := n4_; have NB115_116 := n5_; have NB116_115 := n6_; clear n0_ n1_ n2_ n3_ n4_ n5_ n6_; clear hb hbox hg) | ((with_reducible refine gate_dst (N := 6) rfl ?_); refine box_event ?hg (N := 6) ?hd (cs := #[.int .u64 0, .int .u64 0, .int .u64 0, .int .u64 0]) (t := 71) ?hr ?_; (case hd => rfl); (case hg => rfl); (case hr => first | (go_simp; done) | (go_simp; rfl)); intro gb117 hg w92 hbox hb; have n0_ := aM (blk_below (g := gb115) (o := .cells #[.int .i64 a0_0, .slice A0_1 l0_1.length c0_1, .slice A0_2 l0_2.length c0_2] 25 (0, 0)) (up_ BK115.out) hb); have n1_ := aM (blk_below (g := gb116) (o := .cells #[.int .u64 a2_0, .int .u64 a2_1, .int .u64 a2_2, .int .u64 a2_3] 71 (0, 0)) (up_ BK116.out) hb); have n2_ := aM (below_step (bw_ HB.out) hb); have n3_ := aM (hbox); have n4_ := aM ((by rw [hg]; exact (below_size (bw_ HB.out)) : w.heap.size ≤ gb117)); have n5_ := aM ((by rw [hg]; exact (below_size (bw_ HB.out)) : w.heap.size ≤ gb117)); have n6_ := aM ((by rw [hg]; exact Nat.ne_of_lt (blk_lt (g := gb115) (o := .cells #[.int .i64 a0_0, .slice A0_1 l0_1.length c0_1, .slice A0_2 l0_2.length c0_2] 25 (0, 0)) (up_ BK115.out)) : gb115 ≠ gb117)); have n7_ := aM ((by rw [hg]; exact Nat.ne_of_gt (blk_lt (g := gb115) (o := .cells #[.int .i64 a0_0, .slice A0_1 l0_1.length c0_1, .slice A0_2 l0_2.length c0_2] 25 (0, 0)) (up_ BK115.out)) : gb117 ≠ gb115)); have n8_ := aM ((by rw [hg]; exact Nat.ne_of_lt (blk_lt (g := gb116) (o := .cells #[.int .u64 a2_0, .int .u64 a2_1, .int .u64 a2_2, .int .u64 a2_3] 71 (0, 0)) (up_ BK116.out)) : gb116 ≠ gb117)); have n9_ := aM ((by rw [hg]; exact Nat.ne_of_gt (blk_lt (g := gb116) (o := .cells #[.int .u64 a2_0, .int .u64 a2_1, .int .u64 a2_2, .int .u64 a2_3] 71 (0, 0)) (up_ BK116.out)) : gb117 ≠ gb116)); clear BK115; clear BK116; clear HB; have BK115 := n0_; have BK116 := n1_; have HB := n2_; have BK117 := n3_; have GW117 := n4_; have GE117 := n5_; have NB115_117 := n6_; have NB117_115 := n7_; have NB116_117 := n8_; have NB117_116 := n9_; clear n0_ n1_ n2_ n3_ n4_ n5_ n6_ n7_ n8_ n9_; clear hb hbox hg) | ((with_reducible refine gate_dst (N := 7) rfl ?_); refine box_event ?hg (N := 7) ?hd (cs := #[.int .u64 0, .int .u64 0, .int .u64 0, .int .u64 0]) (t := 71) ?hr ?_; (case hd => rfl); (case hg => rfl); (case hr => first | (go_simp; done) | (go_simp; rfl)); intro gb118 hg w93 hbox hb; have n0_ := aM (blk_below (g := gb115) (o := .cells #[.int .i64 a0_0, .slice A0_1 l0_1.length c0_1, .slice A0_2 l0_2.length c0_2] 25 (0, 0)) (up_ BK115.out) hb); have n1_ := aM (blk_below (g := gb116) (o := .cells #[.int .u64 a2_0, .int .u64 a2_1, .int .u64 a2_2, .int .u64 a2_3] 71 (0, 0)) (up_ BK116.out) hb); have n2_ := aM (blk_below (g := gb117) (o := .cells #[.int .u64 0, .int .u64 0, .int .u64 0, .int .u64 0] 71 (0, 0)) (up_ BK117.out) hb); have n3_ := aM (below_step (bw_ HB.out) hb); have n4_ := aM (hbox); have n5_ := aM ((by rw [hg]; exact (below_size (bw_ HB.out)) : w.heap.size ≤ gb118)); have n6_ := aM ((by rw [hg]; exact (below_size (bw_ HB.out)) : w.heap.size ≤ gb118)); have n7_ := aM ((by rw [hg]; exact Nat.ne_of_lt (blk_lt (g := gb115) (o := .cells #[.int .i64 a0_0, .slice A0_1 l0_1.length c0_1, .slice A0_2 l0_2.length c0_2] 25 (0, 0)) (up_ BK115.out)) : gb115 ≠ gb118)); have n8_ := aM ((by rw [hg]; exact Nat.ne_of_gt (blk_lt (g := gb115) (o := .cells #[.int .i64 a0_0, .slice A0_1 l0_1.length c0_1, .slice A0_2 l0_2.length c0_2] 25 (0, 0)) (up_ BK115.out)) : gb118 ≠ gb115)); have n9_ := aM ((by rw [hg]; exact Nat.ne_of_lt (blk_lt (g := gb116) (o := .cells #[.int .u64 a2_0, .int .u64 a2_1, .int .u64 a2_2, .int .u64 a2_3] 71 (0, 0)) (up_ BK116.out)) : gb116 ≠ gb118)); have n10_ := aM ((by rw [hg]; exact Nat.ne_of_gt (blk_lt (g := gb116) (o := .cells #[.int .u64 a2_0, .int .u64 a2_1, .int .u64 a2_2, .int .u64 a2_3] 71 (0, 0)) (up_ BK116.out)) : gb118 ≠ gb116)); have n11_ := aM ((by rw [hg]; exact Nat.ne_of_lt (blk_lt (g := gb117) (o := .cells #[.int .u64 0, .int .u64 0, .int .u64 0, .int .u64 0] 71 (0, 0)) (up_ BK117.out)) : gb117 ≠ gb118)); have n12_ := aM ((by rw [hg]; exact Nat.ne_of_gt (blk_lt (g := gb117) (o := .cells #[.int .u64 0, .int .u64 0, .int .u64 0, .int .u64 0] 71 (0, 0)) (up_ BK117.out)) : gb118 ≠ gb117)); clear BK115; clear BK116; clear BK117; clear HB; have BK115 := n0_; have BK116 := n1_; have BK117 := n2_; have HB := n3_; have BK118 := n4_; have GW118 := n5_; have GE118 := n6_; have NB115_118 := n7_; have NB118_115 := n8_; have NB116_118 := n9_; have NB118_116 := n10_; have NB117_118 := n11_; have NB118_117 := n12_; clear n0_ n1_ n2_ n3_ n4_ n5_ n6_ n7_ n8_ n9_ n10_ n11_ n12_; clear hb hbox hg; have hnb94 := NB115_116.out; have hnc94 := NB116_115.out; have hnb95 := NB115_117.out; have hnc95 := NB117_115.out; have hnb96 := NB115_118.out; have hnc96 := NB118_115.out; have hcz97_0 : w93.cell? ⟨gb115, 0, none⟩ = some (.int .i64 a0_0) := (blk_cell BK115.out 0).trans rfl; have hcz97_1 : w93.cell? ⟨gb115, 1, none⟩ = some (.slice A0_1 l0_1.length c0_1) := (blk_cell BK115.out 1).trans rfl; have hcz97_2 : w93.cell? ⟨gb115, 2, none⟩ = some (.slice A0_2 l0_2.length c0_2) := (blk_cell BK115.out 2).trans rfl; have hfz97_0 := bF BK115.out 0; have hfz97_1 := bF BK115.out 1; have hfz97_2 := bF BK115.out 2))
       repeat (go_step3; try go_wp2_with (fail))
       go_loopg [59] k (fun kq v59 w' => ∃ (x59_1 : Int) (x119000_1 : Int) (x119001_1 : Int) (x119002_1 : Int) (x119003_1 : Int), v59 = .int .i64 x59_1 ∧ Aside0 (pat_ends.l2 kq l1 l0_2 (l0_2.length : Int) x59_1 a2_0 a2_1 a2_2 a2_3 x119000_1 x119001_1 x119002_1 x119003_1 = some (r1, r2, r3, r4)) ∧ Aside0 (kq ≤ k) ∧ Aside0 (w'.heap[gb115]? = some (.cells #[.int .i64 a0_0, (.slice A0_1 l0_1.length c0_1), (.slice A0_2 l0_2.length c0_2)] 25 (0, 0))) ∧ Aside0 (w'.heap[gb116]? = some (.cells #[.int .u64 a2_0, .int .u64 a2_1, .int .u64 a2_2, .int .u64 a2_3] 71 (0, 0))) ∧ Aside0 (w'.heap[gb117]? = some (.cells #[.int .u64 0, .int .u64 0, .int .u64 0, .int .u64 0] 71 (0, 0))) ∧ Aside0 (w'.heap[gb118]? = some (.cells #[.int .u64 x119000_1, .int .u64 x119001_1, .int .u64 x119002_1, .int .u64 x119003_1] 71 (0, 0))) ∧ Aside0 (Below w.heap.size w w'))
       case atStart => exact ⟨(0), (0), (0), (0), (0), (by first | rfl | (simp; done) | (simp [*]; done)), H', ⟨Nat.le_refl _⟩, ⟨by (with_reducible repeat (first | apply bkN | apply bkD | apply bkA)); exact BK115.out⟩, ⟨by (with_reducible repeat (first | apply bkN | apply bkD | apply bkA)); exact BK116.out⟩, ⟨by (with_reducible repeat (first | apply bkN | apply bkD | apply bkA)); exact BK117.out⟩, ⟨by (with_reducible repeat (first | apply bkN | apply bkD | apply bkA)); exact BK118.out⟩, ⟨by repeat (first | (with_reducible first | exact HB.out | apply blA | apply blN | apply blD | refine bS ?_ GE115.out | refine bS ?_ GE116.out | refine bS ?_ GE117.out | refine bS ?_ GE118.out) | exact HB.out)⟩⟩
       case round =>
        clear H'
        obtain ⟨x59_1, x119000_1, x119001_1, x119002_1, x119003_1, rfl, HA, HK1, BK115, BK116, BK117, BK118, HB⟩ := hrel
        cases gk with
        | zero => exact absurd HA.out (by simp [pat_ends.l2])
        | succ k1 =>
         have H := HA.out
         clear HA
         simp only [pat_ends.l2] at H
         by_cases c98 : x59_1 < (l0_2.length : Int)
         · rw [if_pos c98] at H
           have c98b0 : decide (x59_1 < (l0_2.length : Int)) = true := decide_eq_true c98
           clear c98
           by_cases c99 : 0 ≤ x59_1
           · rw [if_pos c99] at H
             have c99b0 : decide (0 ≤ x59_1) = true := decide_eq_true c99
             clear c99
             by_cases c100 : x59_1 < (l0_2.length : Int)
             · rw [if_pos c100] at H
               have c100b0 : decide (x59_1 < (l0_2.length : Int)) = true := decide_eq_true c100
               clear c100
               replace H := Option.bind_eq_some_iff.mp H
               obtain ⟨⟨t134, t135, t136, t137⟩, A1010, H⟩ := H
               replace H : ((pat_places_with.f x119000_1 x119001_1 x119002_1 x119003_1 t134 t135 t136 t137).bind fun bt138 => (pat_ends.l2 k1 l1 l0_2 (l0_2.length : Int) (wrap64 (x59_1 + 1)) a2_0 a2_1 a2_2 a2_3 bt138.1 bt138.2.1 bt138.2.2.1 bt138.2.2.2)) = some (r1, r2, r3, r4) := H
               have A101 := aM A1010
               clear A1010
               replace H := Option.bind_eq_some_iff.mp H
               obtain ⟨⟨t138, t139, t140, t141⟩, A1020, H⟩ := H
               replace H : (pat_ends.l2 k1 l1 l0_2 (l0_2.length : Int) (wrap64 (x59_1 + 1)) a2_0 a2_1 a2_2 a2_3 t138 t139 t140 t141) = some (r1, r2, r3, r4) := H
               have A102 := aM A1020
               clear A1020
               have H' := aM H
               clear H
               have p132 : 0 ≤ (x59_1 : Int) := of_decide_eq_true (by first | (with_reducible assumption) | assumption)
               have q132 : x59_1 < (l0_2.length : Int) := of_decide_eq_true (by first | (with_reducible assumption) | assumption)
               obtain ⟨ad132, A132_1, c132_1, A132_2, c132_2, e132, hx132_0, hx132_1, hx132_2, hl132_1, hi132_1, hl132_2, hi132_2⟩ := at_T25 HR0_2.out x59_1 p132 q132
               cases e132
               replace hx132_0 := (HB.out.cell (World.block_lt_of_cell? w _ hx132_0)).trans hx132_0
               replace hx132_1 := (HB.out.cell (World.block_lt_of_cell? w _ hx132_1)).trans hx132_1
               replace hx132_2 := (HB.out.cell (World.block_lt_of_cell? w _ hx132_2)).trans hx132_2
               have HR132_1 := aM hi132_1
               have HC132_1 := aM hl132_1
               clear hi132_1 hl132_1
               have HR132_2 := aM hi132_2
               have HC132_2 := aM hl132_2
               clear hi132_2 hl132_2
               replace p132 := eq_true p132
               replace q132 := eq_true q132
               try go_wp2_with (first | ((with_reducible refine gate_dst (N := 13) rfl ?_); refine box_event ?hg (N := 13) ?hd (cs := #[.int .i64 0, .slice none 0 0, .slice none 0 0]) (t := 25) ?hr ?_; (case hd => rfl); (case hg => rfl); (case hr => first | (go_simp; done) | (go_simp; rfl)); intro gb133 hg w103 hbox hb; have n0_ := aM (blk_below (g := gb115) (o := .cells #[.int .i64 a0_0, .slice A0_1 l0_1.length c0_1, .slice (some ad132) l0_2.length c0_2] 25 (0, 0)) (up_ BK115.out) hb); have n1_ := aM (blk_below (g := gb116) (o := .cells #[.int .u64 a2_0, .int .u64 a2_1, .int .u64 a2_2, .int .u64 a2_3] 71 (0, 0)) (up_ BK116.out) hb); have n2_ := aM (blk_below (g := gb117) (o := .cells #[.int .u64 0, .int .u64 0, .int .u64 0, .int .u64 0] 71 (0, 0)) (up_ BK117.out) hb); have n3_ := aM (blk_below (g := gb118) (o := .cells #[.int .u64 x119000_1, .int .u64 x119001_1, .int .u64 x119002_1, .int .u64 x119003_1] 71 (0, 0)) (up_ BK118.out) hb); have n4_ := aM (below_step (bw_ HB.out) hb); have n5_ := aM (hbox); have n6_ := aM ((by rw [hg]; exact (below_size (bw_ HB.out)) : w.heap.size ≤ gb133)); have n7_ := aM ((by rw [hg]; exact (below_size (bw_ HB.out)) : w.heap.size ≤ gb133)); have n8_ := aM ((by rw [hg]; exact Nat.ne_of_lt (blk_lt (g := gb115) (o := .cells #[.int .i64 a0_0, .slice A0_1 l0_1.length c0_1, .slice (some ad132) l0_2.length c0_2] 25 (0, 0)) (up_ BK115.out)) : gb115 ≠ gb133)); have n9_ := aM ((by rw [hg]; exact Nat.ne_of_gt (blk_lt (g := gb115) (o := .cells #[.int .i64 a0_0, .slice A0_1 l0_1.length c0_1, .slice (some ad132) l0_2.length c0_2] 25 (0, 0)) (up_ BK115.out)) : gb133 ≠ gb115)); have n10_ := aM ((by rw [hg]; exact Nat.ne_of_lt (blk_lt (g := gb116) (o := .cells #[.int .u64 a2_0, .int .u64 a2_1, .int .u64 a2_2, .int .u64 a2_3] 71 (0, 0)) (up_ BK116.out)) : gb116 ≠ gb133)); have n11_ := aM ((by rw [hg]; exact Nat.ne_of_gt (blk_lt (g := gb116) (o := .cells #[.int .u64 a2_0, .int .u64 a2_1, .int .u64 a2_2, .int .u64 a2_3] 71 (0, 0)) (up_ BK116.out)) : gb133 ≠ gb116)); have n12_ := aM ((by rw [hg]; exact Nat.ne_of_lt (blk_lt (g := gb117) (o := .cells #[.int .u64 0, .int .u64 0, .int .u64 0, .int .u64 0] 71 (0, 0)) (up_ BK117.out)) : gb117 ≠ gb133)); have n13_ := aM ((by rw [hg]; exact Nat.ne_of_gt (blk_lt (g := gb117) (o := .cells #[.int .u64 0, .int .u64 0, .int .u64 0, .int .u64 0] 71 (0, 0)) (up_ BK117.out)) : gb133 ≠ gb117)); have n14_ := aM ((by rw [hg]; exact Nat.ne_of_lt (blk_lt (g := gb118) (o := .cells #[.int .u64 x119000_1, .int .u64 x119001_1, .int .u64 x119002_1, .int .u64 x119003_1] 71 (0, 0)) (up_ BK118.out)) : gb118 ≠ gb133)); have n15_ := aM ((by rw [hg]; exact Nat.ne_of_gt (blk_lt (g := gb118) (o := .cells #[.int .u64 x119000_1, .int .u64 x119001_1, .int .u64 x119002_1, .int .u64 x119003_1] 71 (0, 0)) (up_ BK118.out)) : gb133 ≠ gb118)); clear BK115; clear BK116; clear BK117; clear BK118; clear HB; have BK115 := n0_; have BK116 := n1_; have BK117 := n2_; have BK118 := n3_; have HB := n4_; have BK133 := n5_; have GW133 := n6_; have GE133 := n7_; have NB115_133 := n8_; have NB133_115 := n9_; have NB116_133 := n10_; have NB133_116 := n11_; have NB117_133 := n12_; have NB133_117 := n13_; have NB118_133 := n14_; have NB133_118 := n15_; clear n0_ n1_ n2_ n3_ n4_ n5_ n6_ n7_ n8_ n9_ n10_ n11_ n12_ n13_ n14_ n15_; clear hb hbox hg; have hnb104 := NB133_115.out; have hnc104 := NB115_133.out; have hnb105 := NB133_116.out; have hnc105 := NB116_133.out; have hnb106 := NB133_117.out; have hnc106 := NB117_133.out; have hnb107 := NB133_118.out; have hnc107 := NB118_133.out; have hcz108_0 : w103.cell? ⟨gb133, 0, none⟩ = some (.int .i64 0) := (blk_cell BK133.out 0).trans rfl; have hcz108_1 : w103.cell? ⟨gb133, 1, none⟩ = some (.slice none 0 0) := (blk_cell BK133.out 1).trans rfl; have hcz108_2 : w103.cell? ⟨gb133, 2, none⟩ = some (.slice none 0 0) := (blk_cell BK133.out 2).trans rfl; have hfz108_0 := bF BK133.out 0; have hfz108_1 := bF BK133.out 1; have hfz108_2 := bF BK133.out 2))
               repeat (go_step3; try go_wp2_with (fail))
               have n0_ : Aside0 ((((w103.setCell ⟨gb133, 0, none⟩ (.int .i64 ((rd_T25 l0_2 x59_1).f0))).setCell ⟨gb133, 1, none⟩ (.slice A132_1 ((rd_T25 l0_2 x59_1).f1).length c132_1)).setCell ⟨gb133, 2, none⟩ (.slice A132_2 ((rd_T25 l0_2 x59_1).f2).length c132_2)).heap[gb115]? = some (.cells #[.int .i64 a0_0, .slice A0_1 l0_1.length c0_1, .slice (some ad132) l0_2.length c0_2] 25 (0, 0))) := ⟨by (with_reducible repeat (first | apply bkN | apply bkD | apply bkA)); refine blk_far ?_ NB115_133.out _; (with_reducible repeat (first | apply bkN | apply bkD | apply bkA)); refine blk_far ?_ NB115_133.out _; (with_reducible repeat (first | apply bkN | apply bkD | apply bkA)); refine blk_far ?_ NB115_133.out _; (with_reducible repeat (first | apply bkN | apply bkD | apply bkA)); exact BK115.out⟩
               have n1_ : Aside0 ((((w103.setCell ⟨gb133, 0, none⟩ (.int .i64 ((rd_T25 l0_2 x59_1).f0))).setCell ⟨gb133, 1, none⟩ (.slice A132_1 ((rd_T25 l0_2 x59_1).f1).length c132_1)).setCell ⟨gb133, 2, none⟩ (.slice A132_2 ((rd_T25 l0_2 x59_1).f2).length c132_2)).heap[gb116]? = some (.cells #[.int .u64 a2_0, .int .u64 a2_1, .int .u64 a2_2, .int .u64 a2_3] 71 (0, 0))) := ⟨by (with_reducible repeat (first | apply bkN | apply bkD | apply bkA)); refine blk_far ?_ NB116_133.out _; (with_reducible repeat (first | apply bkN | apply bkD | apply bkA)); refine blk_far ?_ NB116_133.out _; (with_reducible repeat (first | apply bkN | apply bkD | apply bkA)); refine blk_far ?_ NB116_133.out _; (with_reducible repeat (first | apply bkN | apply bkD | apply bkA)); exact BK116.out⟩
               have n2_ : Aside0 ((((w103.setCell ⟨gb133, 0, none⟩ (.int .i64 ((rd_T25 l0_2 x59_1).f0))).setCell ⟨gb133, 1, none⟩ (.slice A132_1 ((rd_T25 l0_2 x59_1).f1).length c132_1)).setCell ⟨gb133, 2, none⟩ (.slice A132_2 ((rd_T25 l0_2 x59_1).f2).length c132_2)).heap[gb117]? = some (.cells #[.int .u64 0, .int .u64 0, .int .u64 0, .int .u64 0] 71 (0, 0))) := ⟨by (with_reducible repeat (first | apply bkN | apply bkD | apply bkA)); refine blk_far ?_ NB117_133.out _; (with_reducible repeat (first | apply bkN | apply bkD | apply bkA)); refine blk_far ?_ NB117_133.out _; (with_reducible repeat (first | apply bkN | apply bkD | apply bkA)); refine blk_far ?_ NB117_133.out _; (with_reducible repeat (first | apply bkN | apply bkD | apply bkA)); exact BK117.out⟩
               have n3_ : Aside0 ((((w103.setCell ⟨gb133, 0, none⟩ (.int .i64 ((rd_T25 l0_2 x59_1).f0))).setCell ⟨gb133, 1, none⟩ (.slice A132_1 ((rd_T25 l0_2 x59_1).f1).length c132_1)).setCell ⟨gb133, 2, none⟩ (.slice A132_2 ((rd_T25 l0_2 x59_1).f2).length c132_2)).heap[gb118]? = some (.cells #[.int .u64 x119000_1, .int .u64 x119001_1, .int .u64 x119002_1, .int .u64 x119003_1] 71 (0, 0))) := ⟨by (with_reducible repeat (first | apply bkN | apply bkD | apply bkA)); refine blk_far ?_ NB118_133.out _; (with_reducible repeat (first | apply bkN | apply bkD | apply bkA)); refine blk_far ?_ NB118_133.out _; (with_reducible repeat (first | apply bkN | apply bkD | apply bkA)); refine blk_far ?_ NB118_133.out _; (with_reducible repeat (first | apply bkN | apply bkD | apply bkA)); exact BK118.out⟩
               have n4_ : Aside0 ((((w103.setCell ⟨gb133, 0, none⟩ (.int .i64 ((rd_T25 l0_2 x59_1).f0))).setCell ⟨gb133, 1, none⟩ (.slice A132_1 ((rd_T25 l0_2 x59_1).f1).length c132_1)).setCell ⟨gb133, 2, none⟩ (.slice A132_2 ((rd_T25 l0_2 x59_1).f2).length c132_2)).heap[gb133]? = some (.cells #[.int .i64 ((rd_T25 l0_2 x59_1).f0), .slice A132_1 ((rd_T25 l0_2 x59_1).f1).length c132_1, .slice A132_2 ((rd_T25 l0_2 x59_1).f2).length c132_2] 25 (0, 0))) := ⟨by (with_reducible repeat (first | apply bkN | apply bkD | apply bkA)); refine blk_put (cs := #[.int .i64 ((rd_T25 l0_2 x59_1).f0), .slice A132_1 ((rd_T25 l0_2 x59_1).f1).length c132_1, .slice none 0 0]) ?_ 2 _ rfl; (with_reducible repeat (first | apply bkN | apply bkD | apply bkA)); refine blk_put (cs := #[.int .i64 ((rd_T25 l0_2 x59_1).f0), .slice none 0 0, .slice none 0 0]) ?_ 1 _ rfl; (with_reducible repeat (first | apply bkN | apply bkD | apply bkA)); refine blk_put (cs := #[.int .i64 0, .slice none 0 0, .slice none 0 0]) ?_ 0 _ rfl; (with_reducible repeat (first | apply bkN | apply bkD | apply bkA)); exact BK133.out⟩
               have n5_ : Aside0 (Below w.heap.size w (((w103.setCell ⟨gb133, 0, none⟩ (.int .i64 ((rd_T25 l0_2 x59_1).f0))).setCell ⟨gb133, 1, none⟩ (.slice A132_1 ((rd_T25 l0_2 x59_1).f1).length c132_1)).setCell ⟨gb133, 2, none⟩ (.slice A132_2 ((rd_T25 l0_2 x59_1).f2).length c132_2))) := ⟨by repeat (first | (with_reducible first | exact HB.out | apply blA | apply blN | apply blD | refine bS ?_ GE115.out | refine bS ?_ GE116.out | refine bS ?_ GE117.out | refine bS ?_ GE118.out | refine bS ?_ GE133.out) | exact HB.out)⟩
               (try clear BK115)
               (try clear BK116)
               (try clear BK117)
               (try clear BK118)
               (try clear BK133)
               (try clear HB)
               generalize (((w103.setCell ⟨gb133, 0, none⟩ (.int .i64 ((rd_T25 l0_2 x59_1).f0))).setCell ⟨gb133, 1, none⟩ (.slice A132_1 ((rd_T25 l0_2 x59_1).f1).length c132_1)).setCell ⟨gb133, 2, none⟩ (.slice A132_2 ((rd_T25 l0_2 x59_1).f2).length c132_2)) = w109 at n0_ n1_ n2_ n3_ n4_ n5_ ⊢
               have BK115 := n0_
               have BK116 := n1_
               have BK117 := n2_
               have BK118 := n3_
               have BK133 := n4_
               have HB := n5_
               clear n0_ n1_ n2_ n3_ n4_ n5_
               have n0_ := aM (blk_drew BK115.out)
               have n1_ := aM (blk_drew BK116.out)
               have n2_ := aM (blk_drew BK117.out)
               have n3_ := aM (blk_drew BK118.out)
               have n4_ := aM (blk_drew BK133.out)
               have n5_ := aM (below_drew1 HB.out)
               clear BK115
               clear BK116
               clear BK117
               clear BK118
               clear BK133
               clear HB
               have BK115 := n0_
               have BK116 := n1_
               have BK117 := n2_
               have BK118 := n3_
               have BK133 := n4_
               have HB := n5_
               clear n0_ n1_ n2_ n3_ n4_ n5_
               refine start_ (n := 7) (S := fun w' => w'.cell? ⟨gb118, 0, none⟩ = some (.int .u64 x119000_1) ∧ w'.cell? ⟨gb118, 1, none⟩ = some (.int .u64 x119001_1) ∧ w'.cell? ⟨gb118, 2, none⟩ = some (.int .u64 x119002_1) ∧ w'.cell? ⟨gb118, 3, none⟩ = some (.int .u64 x119003_1) ∧ w'.cell? ⟨gb133, 0, none⟩ = some (.int .i64 ((rd_T25 l0_2 x59_1).f0)) ∧ w'.cell? ⟨gb133, 1, none⟩ = some (.slice A132_1 ((rd_T25 l0_2 x59_1).f1).length c132_1) ∧ w'.cell? ⟨gb133, 2, none⟩ = some (.slice A132_2 ((rd_T25 l0_2 x59_1).f2).length c132_2) ∧ w'.cell? ⟨gb116, 0, none⟩ = some (.int .u64 a2_0) ∧ w'.cell? ⟨gb116, 1, none⟩ = some (.int .u64 a2_1) ∧ w'.cell? ⟨gb116, 2, none⟩ = some (.int .u64 a2_2) ∧ w'.cell? ⟨gb116, 3, none⟩ = some (.int .u64 a2_3)) (ds := [6]) (tf 0 7) (by kernel_rfl) rfl rfl ⟨(blk_cell BK118.out 0).trans rfl, (blk_cell BK118.out 1).trans rfl, (blk_cell BK118.out 2).trans rfl, (blk_cell BK118.out 3).trans rfl, (blk_cell BK133.out 0).trans rfl, (blk_cell BK133.out 1).trans rfl, (blk_cell BK133.out 2).trans rfl, (blk_cell BK116.out 0).trans rfl, (blk_cell BK116.out 1).trans rfl, (blk_cell BK116.out 2).trans rfl, (blk_cell BK116.out 3).trans rfl⟩ (fun hHeld => ?_)
               generalize w109.drew = w110 at BK115 BK116 BK117 BK118 BK133 HB hHeld ⊢
               refine pure_ (i := 2) (N := some 65) (v := ?_) (a' := ?_) #[false, false, true, false, false, false, false] rfl rfl (by kernel_rfl) (fun _ _ _ h => h) (Or.inl ⟨by rfl, ?_⟩) ?_ ?_
               rotate_left
               · intro w'
                 go_simp
                 with_reducible rfl
               rotate_left
               · simp only [Act.put, sT, sZ, sS, i64_w, i32_w]
                 rfl
               refine take_ (i := 0) (N := some 63) (v := ?_) (a' := ?_) #[true, false, true, false, false, false, false] rfl rfl (by kernel_rfl) (fun _ _ _ h => h) (Or.inl ⟨by rfl, ?_⟩) hHeld ?_ ?_
               rotate_left
               · rintro w' ⟨s0, s1, s2, s3, s4, s5, s6, s7, s8, s9, s10⟩
                 go_simp
                 with_reducible rfl
               rotate_left
               · simp only [Act.put, sT, sZ, sS, i64_w, i32_w]
                 rfl
               refine take_ (i := 1) (N := some 64) (v := ?_) (a' := ?_) (tf 3 4) rfl rfl (by kernel_rfl) (fun _ _ _ h => h) (Or.inl ⟨by rfl, ?_⟩) hHeld ?_ ?_
               rotate_left
               · rintro w' ⟨s0, s1, s2, s3, s4, s5, s6, s7, s8, s9, s10⟩
                 go_simp
                 with_reducible rfl
               rotate_left
               · simp only [Act.put, sT, sZ, sS, i64_w, i32_w]
                 rfl
               refine take_ (i := 3) (N := some 66) (v := ?_) (a' := ?_) (tf 4 3) rfl rfl (by kernel_rfl) (fun _ _ _ h => h) (Or.inl ⟨by rfl, ?_⟩) hHeld ?_ ?_
               rotate_left
               · rintro w' ⟨s0, s1, s2, s3, s4, s5, s6, s7, s8, s9, s10⟩
                 go_simp
                 with_reducible rfl
               rotate_left
               · simp only [Act.put, sT, sZ, sS, i64_w, i32_w]
                 rfl
               refine one_ (i := 4) (N := some 67) (tf 5 2) rfl rfl (by kernel_rfl) (by decide) (fun K hK => ?_)
               refine goes_ Try.func46 (by kernel_rfl) rfl #[.agg #[.int .i64 ((rd_T25 l0_2 x59_1).f0), .slice A132_1 ((rd_T25 l0_2 x59_1).f1).length c132_1, .slice A132_2 ((rd_T25 l0_2 x59_1).f2).length c132_2], .slice A1 l1.length c1, .agg #[.int .u64 a2_0, .int .u64 a2_1, .int .u64 a2_2, .int .u64 a2_3]] (by rfl) rfl rfl (by (try simp only [List.map_toArray, List.map_cons, List.map_nil]); first | done | rfl | (simp only [List.length_drop, List.length_take]; rfl)) ?_
               with_reducible refine (ih k1 (by have := HK1.out; omega) ((rd_T25 l0_2 x59_1).f0) _ _ ((rd_T25 l0_2 x59_1).f1) _ _ ((rd_T25 l0_2 x59_1).f2) _ _ l1 a2_0 a2_1 a2_2 a2_3 t134 t135 t136 t137 _ ?side1 ?side2 ?side3 ?side4 ?side5 ?side6 A101.out).mono ?_
               (case side1 => repeat (first | exact (Kd.C_below HR132_1.out HB.out) | (with_reducible refine Kd.C_alloc ?_ _) | (with_reducible refine Kd.C_drewN ?_ _) | (with_reducible refine Kd.C_drew ?_)))
               (case side2 => exact HC132_1.out)
               (case side3 => repeat (first | exact (Kd.C_below HR132_2.out HB.out) | (with_reducible refine Kd.C_alloc ?_ _) | (with_reducible refine Kd.C_drewN ?_ _) | (with_reducible refine Kd.C_drew ?_)))
               (case side4 => exact HC132_2.out)
               (case side5 => repeat (first | exact (Kd.C_below HR1.out HB.out) | (with_reducible refine Kd.C_alloc ?_ _) | (with_reducible refine Kd.C_drewN ?_ _) | (with_reducible refine Kd.C_drew ?_)))
               (case side6 => exact HC1.out)
               rintro e w111 ⟨rfl, hb⟩
               refine ⟨_, rfl, ?_⟩
               have n0_ := aM (blk_below (g := gb115) (o := .cells #[.int .i64 a0_0, .slice A0_1 l0_1.length c0_1, .slice (some ad132) l0_2.length c0_2] 25 (0, 0)) (up_ BK115.out) hb)
               have n1_ := aM (blk_below (g := gb116) (o := .cells #[.int .u64 a2_0, .int .u64 a2_1, .int .u64 a2_2, .int .u64 a2_3] 71 (0, 0)) (up_ BK116.out) hb)
               have n2_ := aM (blk_below (g := gb117) (o := .cells #[.int .u64 0, .int .u64 0, .int .u64 0, .int .u64 0] 71 (0, 0)) (up_ BK117.out) hb)
               have n3_ := aM (blk_below (g := gb118) (o := .cells #[.int .u64 x119000_1, .int .u64 x119001_1, .int .u64 x119002_1, .int .u64 x119003_1] 71 (0, 0)) (up_ BK118.out) hb)
               have n4_ := aM (blk_below (g := gb133) (o := .cells #[.int .i64 ((rd_T25 l0_2 x59_1).f0), .slice A132_1 ((rd_T25 l0_2 x59_1).f1).length c132_1, .slice A132_2 ((rd_T25 l0_2 x59_1).f2).length c132_2] 25 (0, 0)) (up_ BK133.out) hb)
               have n5_ := aM (below_step (bw_ HB.out) hb)
               clear BK115
               clear BK116
               clear BK117
               clear BK118
               clear BK133
               clear HB
               have BK115 := n0_
               have BK116 := n1_
               have BK117 := n2_
               have BK118 := n3_
               have BK133 := n4_
               have HB := n5_
               clear n0_ n1_ n2_ n3_ n4_ n5_
               (try clear hb)
               (try clear hb2)
               (try clear hk)
               (try clear hi)
               refine hK.out _ _ ⟨(blk_cell BK118.out 0).trans rfl, (blk_cell BK118.out 1).trans rfl, (blk_cell BK118.out 2).trans rfl, (blk_cell BK118.out 3).trans rfl, (blk_cell BK133.out 0).trans rfl, (blk_cell BK133.out 1).trans rfl, (blk_cell BK133.out 2).trans rfl, (blk_cell BK116.out 0).trans rfl, (blk_cell BK116.out 1).trans rfl, (blk_cell BK116.out 2).trans rfl, (blk_cell BK116.out 3).trans rfl⟩ (fun hHeld => ?_)
               clear hK K
               refine norm_ (a' := ?_) ?_ ?_
               rotate_left
               · show Act.put _ (some 67) _ = _
                 simp only [Act.put, sT, sZ, sS, i64_w, i32_w]
                 rfl
               refine one_ (i := 5) (N := some 68) (tf 6 1) rfl rfl (by kernel_rfl) (by decide) (fun K hK => ?_)
               refine goes_ Try.func82 (by kernel_rfl) rfl #[.agg #[.int .u64 x119000_1, .int .u64 x119001_1, .int .u64 x119002_1, .int .u64 x119003_1], .agg #[.int .u64 t134, .int .u64 t135, .int .u64 t136, .int .u64 t137]] (by rfl) rfl rfl (by (try simp only [List.map_toArray, List.map_cons, List.map_nil]); first | done | rfl | (simp only [List.length_drop, List.length_take]; rfl)) ?_
               with_reducible refine (pat_places_with.calls x119000_1 x119001_1 x119002_1 x119003_1 t134 t135 t136 t137 t138 t139 t140 t141 _ A102.out).mono ?_
               rintro e w112 ⟨rfl, hb⟩
               refine ⟨_, rfl, ?_⟩
               have n0_ := aM (blk_below (g := gb115) (o := .cells #[.int .i64 a0_0, .slice A0_1 l0_1.length c0_1, .slice (some ad132) l0_2.length c0_2] 25 (0, 0)) (up_ BK115.out) hb)
               have n1_ := aM (blk_below (g := gb116) (o := .cells #[.int .u64 a2_0, .int .u64 a2_1, .int .u64 a2_2, .int .u64 a2_3] 71 (0, 0)) (up_ BK116.out) hb)
               have n2_ := aM (blk_below (g := gb117) (o := .cells #[.int .u64 0, .int .u64 0, .int .u64 0, .int .u64 0] 71 (0, 0)) (up_ BK117.out) hb)
               have n3_ := aM (blk_below (g := gb118) (o := .cells #[.int .u64 x119000_1, .int .u64 x119001_1, .int .u64 x119002_1, .int .u64 x119003_1] 71 (0, 0)) (up_ BK118.out) hb)
               have n4_ := aM (blk_below (g := gb133) (o := .cells #[.int .i64 ((rd_T25 l0_2 x59_1).f0), .slice A132_1 ((rd_T25 l0_2 x59_1).f1).length c132_1, .slice A132_2 ((rd_T25 l0_2 x59_1).f2).length c132_2] 25 (0, 0)) (up_ BK133.out) hb)
               have n5_ := aM (below_step (bw_ HB.out) hb)
               clear BK115
               clear BK116
               clear BK117
               clear BK118
               clear BK133
               clear HB
               have BK115 := n0_
               have BK116 := n1_
               have BK117 := n2_
               have BK118 := n3_
               have BK133 := n4_
               have HB := n5_
               clear n0_ n1_ n2_ n3_ n4_ n5_
               (try clear hb)
               (try clear hb2)
               (try clear hk)
               (try clear hi)
               refine hK.out _ _ ⟨(blk_cell BK118.out 0).trans rfl, (blk_cell BK118.out 1).trans rfl, (blk_cell BK118.out 2).trans rfl, (blk_cell BK118.out 3).trans rfl, (blk_cell BK133.out 0).trans rfl, (blk_cell BK133.out 1).trans rfl, (blk_cell BK133.out 2).trans rfl, (blk_cell BK116.out 0).trans rfl, (blk_cell BK116.out 1).trans rfl, (blk_cell BK116.out 2).trans rfl, (blk_cell BK116.out 3).trans rfl⟩ (fun hHeld => ?_)
               clear hK K
               refine norm_ (a' := ?_) ?_ ?_
               rotate_left
               · show Act.put _ (some 68) _ = _
                 simp only [Act.put, sT, sZ, sS, i64_w, i32_w]
                 rfl
               refine last_ (i := 6) (N := none) (tf 7 0) rfl rfl (by kernel_rfl) (by decide) (fun K hK => ?_)
               have hs113 : w112.cell? ⟨gb118, 0, none⟩ = some (.int .u64 x119000_1) := (blk_cell BK118.out 0).trans rfl
               have hfs113 := bF BK118.out 0
               have hns113_0 := NB115_118.out
               have hns113_1 := NB116_118.out
               have hns113_2 := NB117_118.out
               have hns113_4 := NB133_118.out
               have hms113_0 := NB118_115.out
               have hms113_1 := NB118_116.out
               have hms113_2 := NB118_117.out
               have hms113_4 := NB118_133.out
               have hs114 : w112.cell? ⟨gb118, 1, none⟩ = some (.int .u64 x119001_1) := (blk_cell BK118.out 1).trans rfl
               have hfs114 := bF BK118.out 1
               have hns114_0 := NB115_118.out
               have hns114_1 := NB116_118.out
               have hns114_2 := NB117_118.out
               have hns114_4 := NB133_118.out
               have hms114_0 := NB118_115.out
               have hms114_1 := NB118_116.out
               have hms114_2 := NB118_117.out
               have hms114_4 := NB118_133.out
               have hs115 : w112.cell? ⟨gb118, 2, none⟩ = some (.int .u64 x119002_1) := (blk_cell BK118.out 2).trans rfl
               have hfs115 := bF BK118.out 2
               have hns115_0 := NB115_118.out
               have hns115_1 := NB116_118.out
               have hns115_2 := NB117_118.out
               have hns115_4 := NB133_118.out
               have hms115_0 := NB118_115.out
               have hms115_1 := NB118_116.out
               have hms115_2 := NB118_117.out
               have hms115_4 := NB118_133.out
               have hs116 : w112.cell? ⟨gb118, 3, none⟩ = some (.int .u64 x119003_1) := (blk_cell BK118.out 3).trans rfl
               have hfs116 := bF BK118.out 3
               have hns116_0 := NB115_118.out
               have hns116_1 := NB116_118.out
               have hns116_2 := NB117_118.out
               have hns116_4 := NB133_118.out
               have hms116_0 := NB118_115.out
               have hms116_1 := NB118_116.out
               have hms116_2 := NB118_117.out
               have hms116_4 := NB118_133.out
               refine skip_ (w1 := ?_) (by rfl) rfl ?_ ?_
               rotate_left
               · go_simp
                 rfl
               refine hK.out _ _ ?_
               clear hK K
               refine done_ (by kernel_rfl) ?_
               try go_wp2
               repeat (go_step3; try go_wp2_with (fail))
               go_roundg k1
               case measure => have := HK1.out; omega
               case rel => exact ⟨(wrap64 (x59_1 + 1)), (t138), (t139), (t140), (t141), (by first | rfl | (simp; done) | (simp [*]; done)), H', ⟨by have := HK1.out; omega⟩, ⟨by (with_reducible repeat (first | apply bkN | apply bkD | apply bkA)); refine blk_far ?_ NB115_118.out _; (with_reducible repeat (first | apply bkN | apply bkD | apply bkA)); refine blk_far ?_ NB115_118.out _; (with_reducible repeat (first | apply bkN | apply bkD | apply bkA)); refine blk_far ?_ NB115_118.out _; (with_reducible repeat (first | apply bkN | apply bkD | apply bkA)); refine blk_far ?_ NB115_118.out _; (with_reducible repeat (first | apply bkN | apply bkD | apply bkA)); exact BK115.out⟩, ⟨by (with_reducible repeat (first | apply bkN | apply bkD | apply bkA)); refine blk_far ?_ NB116_118.out _; (with_reducible repeat (first | apply bkN | apply bkD | apply bkA)); refine blk_far ?_ NB116_118.out _; (with_reducible repeat (first | apply bkN | apply bkD | apply bkA)); refine blk_far ?_ NB116_118.out _; (with_reducible repeat (first | apply bkN | apply bkD | apply bkA)); refine blk_far ?_ NB116_118.out _; (with_reducible repeat (first | apply bkN | apply bkD | apply bkA)); exact BK116.out⟩, ⟨by (with_reducible repeat (first | apply bkN | apply bkD | apply bkA)); refine blk_far ?_ NB117_118.out _; (with_reducible repeat (first | apply bkN | apply bkD | apply bkA)); refine blk_far ?_ NB117_118.out _; (with_reducible repeat (first | apply bkN | apply bkD | apply bkA)); refine blk_far ?_ NB117_118.out _; (with_reducible repeat (first | apply bkN | apply bkD | apply bkA)); refine blk_far ?_ NB117_118.out _; (with_reducible repeat (first | apply bkN | apply bkD | apply bkA)); exact BK117.out⟩, ⟨by (with_reducible repeat (first | apply bkN | apply bkD | apply bkA)); refine blk_put (cs := #[.int .u64 t138, .int .u64 t139, .int .u64 t140, .int .u64 x119003_1]) ?_ 3 _ rfl; (with_reducible repeat (first | apply bkN | apply bkD | apply bkA)); refine blk_put (cs := #[.int .u64 t138, .int .u64 t139, .int .u64 x119002_1, .int .u64 x119003_1]) ?_ 2 _ rfl; (with_reducible repeat (first | apply bkN | apply bkD | apply bkA)); refine blk_put (cs := #[.int .u64 t138, .int .u64 x119001_1, .int .u64 x119002_1, .int .u64 x119003_1]) ?_ 1 _ rfl; (with_reducible repeat (first | apply bkN | apply bkD | apply bkA)); refine blk_put (cs := #[.int .u64 x119000_1, .int .u64 x119001_1, .int .u64 x119002_1, .int .u64 x119003_1]) ?_ 0 _ rfl; (with_reducible repeat (first | apply bkN | apply bkD | apply bkA)); exact BK118.out⟩, ⟨by repeat (first | (with_reducible first | exact HB.out | apply blA | apply blN | apply blD | refine bS ?_ GE115.out | refine bS ?_ GE116.out | refine bS ?_ GE117.out | refine bS ?_ GE118.out | refine bS ?_ GE133.out) | exact HB.out)⟩⟩
             · rw [if_neg c100] at H
               exact absurd H (by simp)
           · rw [if_neg c99] at H
             exact absurd H (by simp)
         · rw [if_neg c98] at H
           have c98b0 : decide (x59_1 < (l0_2.length : Int)) = false := decide_eq_false c98
           clear c98
           simp only [Option.some.injEq, Prod.mk.injEq] at H
           obtain ⟨rfl, rfl, rfl, rfl⟩ := H
           have hnb117 := NB118_115.out
           have hnc117 := NB115_118.out
           have hnb118 := NB118_116.out
           have hnc118 := NB116_118.out
           have hnb119 := NB118_117.out
           have hnc119 := NB117_118.out
           have hcz120_0 : wr.cell? ⟨gb118, 0, none⟩ = some (.int .u64 x119000_1) := (blk_cell BK118.out 0).trans rfl
           have hcz120_1 : wr.cell? ⟨gb118, 1, none⟩ = some (.int .u64 x119001_1) := (blk_cell BK118.out 1).trans rfl
           have hcz120_2 : wr.cell? ⟨gb118, 2, none⟩ = some (.int .u64 x119002_1) := (blk_cell BK118.out 2).trans rfl
           have hcz120_3 : wr.cell? ⟨gb118, 3, none⟩ = some (.int .u64 x119003_1) := (blk_cell BK118.out 3).trans rfl
           have hfz120_0 := bF BK118.out 0
           have hfz120_1 := bF BK118.out 1
           have hfz120_2 := bF BK118.out 2
           have hfz120_3 := bF BK118.out 3
           have hnb121 := NB117_115.out
           have hnc121 := NB115_117.out
           have hnb122 := NB117_116.out
           have hnc122 := NB116_117.out
           have hcz123_0 : wr.cell? ⟨gb117, 0, none⟩ = some (.int .u64 0) := (blk_cell BK117.out 0).trans rfl
           have hcz123_1 : wr.cell? ⟨gb117, 1, none⟩ = some (.int .u64 0) := (blk_cell BK117.out 1).trans rfl
           have hcz123_2 : wr.cell? ⟨gb117, 2, none⟩ = some (.int .u64 0) := (blk_cell BK117.out 2).trans rfl
           have hcz123_3 : wr.cell? ⟨gb117, 3, none⟩ = some (.int .u64 0) := (blk_cell BK117.out 3).trans rfl
           have hfz123_0 := bF BK117.out 0
           have hfz123_1 := bF BK117.out 1
           have hfz123_2 := bF BK117.out 2
           have hfz123_3 := bF BK117.out 3
           go_wp2
           repeat (go_step3; try go_wp2_with (fail))
           refine bodyPost_ret (results_cell_row rfl _ _ gb117 71 #[.int .u64 x119000_1, .int .u64 x119001_1, .int .u64 x119002_1, .int .u64 x119003_1] (0, 0) _ rfl (by (with_reducible repeat (first | apply bkN | apply bkD | apply bkA)); refine blk_put (cs := #[.int .u64 x119000_1, .int .u64 x119001_1, .int .u64 x119002_1, .int .u64 0]) ?_ 3 _ rfl; (with_reducible repeat (first | apply bkN | apply bkD | apply bkA)); refine blk_put (cs := #[.int .u64 x119000_1, .int .u64 x119001_1, .int .u64 0, .int .u64 0]) ?_ 2 _ rfl; (with_reducible repeat (first | apply bkN | apply bkD | apply bkA)); refine blk_put (cs := #[.int .u64 x119000_1, .int .u64 0, .int .u64 0, .int .u64 0]) ?_ 1 _ rfl; (with_reducible repeat (first | apply bkN | apply bkD | apply bkA)); refine blk_put (cs := #[.int .u64 0, .int .u64 0, .int .u64 0, .int .u64 0]) ?_ 0 _ rfl; (with_reducible repeat (first | apply bkN | apply bkD | apply bkA)); exact BK117.out) Try.underlying71 rfl (by kernel_rfl)) rfl ?_
           exact ⟨by first | rfl | (simp [errW_none, errW_some] <;> rfl) | (simp [*, errW_none, errW_some] <;> rfl), by repeat (first | (with_reducible first | exact HB.out | apply blA | apply blN | apply blD | refine bS ?_ GE115.out | refine bS ?_ GE116.out | refine bS ?_ GE117.out | refine bS ?_ GE118.out) | exact HB.out)⟩
     · rw [if_neg c89] at H
       have c89b0 : (a0_0 == 3) = false := beq_eq_false_iff_ne.mpr c89
       have c89b1 : (a0_0 != 3) = true := bne_iff_ne.mpr c89
       by_cases c124 : a0_0 = 4
       · rw [if_pos c124] at H
         have c124b0 : (a0_0 == 4) = true := beq_iff_eq.mpr c124
         have c124b1 : (a0_0 != 4) = false := bne_eq_false_iff_eq.mpr c124
         clear c124
         have H' := aM H
         clear H
         go_enter Try.func46, Try.ntmps46
         go_wp2_with (first | ((with_reducible refine gate_dst (N := 3) rfl ?_); refine box_event ?hg (N := 3) ?hd (cs := #[.int .i64 a0_0, .slice A0_1 l0_1.length c0_1, .slice A0_2 l0_2.length c0_2]) (t := 25) ?hr ?_; (case hd => rfl); (case hg => rfl); (case hr => first | (go_simp; done) | (go_simp; rfl)); intro gb115 hg w125 hbox hb; have n0_ := aM (below_step (bw_ HB.out) hb); have n1_ := aM (hbox); have n2_ := aM ((by rw [hg]; exact (below_size (bw_ HB.out)) : w.heap.size ≤ gb115)); have n3_ := aM ((by rw [hg]; exact (below_size (bw_ HB.out)) : w.heap.size ≤ gb115)); clear HB; have HB := n0_; have BK115 := n1_; have GW115 := n2_; have GE115 := n3_; clear n0_ n1_ n2_ n3_; clear hb hbox hg) | ((with_reducible refine gate_dst (N := 5) rfl ?_); refine box_event ?hg (N := 5) ?hd (cs := #[.int .u64 a2_0, .int .u64 a2_1, .int .u64 a2_2, .int .u64 a2_3]) (t := 71) ?hr ?_; (case hd => rfl); (case hg => rfl); (case hr => first | (go_simp; done) | (go_simp; rfl)); intro gb116 hg w126 hbox hb; have n0_ := aM (blk_below (g := gb115) (o := .cells #[.int .i64 a0_0, .slice A0_1 l0_1.length c0_1, .slice A0_2 l0_2.length c0_2] 25 (0, 0)) (up_ BK115.out) hb); have n1_ := aM (below_step (bw_ HB.out) hb); have n2_ := aM (hbox); have n3_ := aM ((by rw [hg]; exact (below_size (bw_ HB.out)) : w.heap.size ≤ gb116)); have n4_ := aM ((by rw [hg]; exact (below_size (bw_ HB.out)) : w.heap.size ≤ gb116)); have n5_ := aM ((by rw [hg]; exact Nat.ne_of_lt (blk_lt (g := gb115) (o := .cells #[.int .i64 a0_0, .slice A0_1 l0_1.length c0_1, .slice A0_2 l0_2.length c0_2] 25 (0, 0)) (up_ BK115.out)) : gb115 ≠ gb116)); have n6_ := aM ((by rw [hg]; exact Nat.ne_of_gt (blk_lt (g := gb115) (o := .cells #[.int .i64 a0_0, .slice A0_1 l0_1.length c0_1, .slice A0_2 l0_2.length c0_2] 25 (0, 0)) (up_ BK115.out)) : gb116 ≠ gb115)); clear BK115; clear HB; have BK115 := n0_; have HB := n1_; have BK116 := n2_; have GW116 := n3_; have GE116 := n4_; have NB115_116 := n5_; have NB116_115 := n6_; clear n0_ n1_ n2_ n3_ n4_ n5_ n6_; clear hb hbox hg) | ((with_reducible refine gate_dst (N := 6) rfl ?_); refine box_event ?hg (N := 6) ?hd (cs := #[.int .u64 0, .int .u64 0, .int .u64 0, .int .u64 0]) (t := 71) ?hr ?_; (case hd => rfl); (case hg => rfl); (case hr => first | (go_simp; done) | (go_simp; rfl)); intro gb117 hg w127 hbox hb; have n0_ := aM (blk_below (g := gb115) (o := .cells #[.int .i64 a0_0, .slice A0_1 l0_1.length c0_1, .slice A0_2 l0_2.length c0_2] 25 (0, 0)) (up_ BK115.out) hb); have n1_ := aM (blk_below (g := gb116) (o := .cells #[.int .u64 a2_0, .int .u64 a2_1, .int .u64 a2_2, .int .u64 a2_3] 71 (0, 0)) (up_ BK116.out) hb); have n2_ := aM (below_step (bw_ HB.out) hb); have n3_ := aM (hbox); have n4_ := aM ((by rw [hg]; exact (below_size (bw_ HB.out)) : w.heap.size ≤ gb117)); have n5_ := aM ((by rw [hg]; exact (below_size (bw_ HB.out)) : w.heap.size ≤ gb117)); have n6_ := aM ((by rw [hg]; exact Nat.ne_of_lt (blk_lt (g := gb115) (o := .cells #[.int .i64 a0_0, .slice A0_1 l0_1.length c0_1, .slice A0_2 l0_2.length c0_2] 25 (0, 0)) (up_ BK115.out)) : gb115 ≠ gb117)); have n7_ := aM ((by rw [hg]; exact Nat.ne_of_gt (blk_lt (g := gb115) (o := .cells #[.int .i64 a0_0, .slice A0_1 l0_1.length c0_1, .slice A0_2 l0_2.length c0_2] 25 (0, 0)) (up_ BK115.out)) : gb117 ≠ gb115)); have n8_ := aM ((by rw [hg]; exact Nat.ne_of_lt (blk_lt (g := gb116) (o := .cells #[.int .u64 a2_0, .int .u64 a2_1, .int .u64 a2_2, .int .u64 a2_3] 71 (0, 0)) (up_ BK116.out)) : gb116 ≠ gb117)); have n9_ := aM ((by rw [hg]; exact Nat.ne_of_gt (blk_lt (g := gb116) (o := .cells #[.int .u64 a2_0, .int .u64 a2_1, .int .u64 a2_2, .int .u64 a2_3] 71 (0, 0)) (up_ BK116.out)) : gb117 ≠ gb116)); clear BK115; clear BK116; clear HB; have BK115 := n0_; have BK116 := n1_; have HB := n2_; have BK117 := n3_; have GW117 := n4_; have GE117 := n5_; have NB115_117 := n6_; have NB117_115 := n7_; have NB116_117 := n8_; have NB117_116 := n9_; clear n0_ n1_ n2_ n3_ n4_ n5_ n6_ n7_ n8_ n9_; clear hb hbox hg) | ((with_reducible refine gate_dst (N := 7) rfl ?_); refine box_event ?hg (N := 7) ?hd (cs := #[.int .u64 0, .int .u64 0, .int .u64 0, .int .u64 0]) (t := 71) ?hr ?_; (case hd => rfl); (case hg => rfl); (case hr => first | (go_simp; done) | (go_simp; rfl)); intro gb118 hg w128 hbox hb; have n0_ := aM (blk_below (g := gb115) (o := .cells #[.int .i64 a0_0, .slice A0_1 l0_1.length c0_1, .slice A0_2 l0_2.length c0_2] 25 (0, 0)) (up_ BK115.out) hb); have n1_ := aM (blk_below (g := gb116) (o := .cells #[.int .u64 a2_0, .int .u64 a2_1, .int .u64 a2_2, .int .u64 a2_3] 71 (0, 0)) (up_ BK116.out) hb); have n2_ := aM (blk_below (g := gb117) (o := .cells #[.int .u64 0, .int .u64 0, .int .u64 0, .int .u64 0] 71 (0, 0)) (up_ BK117.out) hb); have n3_ := aM (below_step (bw_ HB.out) hb); have n4_ := aM (hbox); have n5_ := aM ((by rw [hg]; exact (below_size (bw_ HB.out)) : w.heap.size ≤ gb118)); have n6_ := aM ((by rw [hg]; exact (below_size (bw_ HB.out)) : w.heap.size ≤ gb118)); have n7_ := aM ((by rw [hg]; exact Nat.ne_of_lt (blk_lt (g := gb115) (o := .cells #[.int .i64 a0_0, .slice A0_1 l0_1.length c0_1, .slice A0_2 l0_2.length c0_2] 25 (0, 0)) (up_ BK115.out)) : gb115 ≠ gb118)); have n8_ := aM ((by rw [hg]; exact Nat.ne_of_gt (blk_lt (g := gb115) (o := .cells #[.int .i64 a0_0, .slice A0_1 l0_1.length c0_1, .slice A0_2 l0_2.length c0_2] 25 (0, 0)) (up_ BK115.out)) : gb118 ≠ gb115)); have n9_ := aM ((by rw [hg]; exact Nat.ne_of_lt (blk_lt (g := gb116) (o := .cells #[.int .u64 a2_0, .int .u64 a2_1, .int .u64 a2_2, .int .u64 a2_3] 71 (0, 0)) (up_ BK116.out)) : gb116 ≠ gb118)); have n10_ := aM ((by rw [hg]; exact Nat.ne_of_gt (blk_lt (g := gb116) (o := .cells #[.int .u64 a2_0, .int .u64 a2_1, .int .u64 a2_2, .int .u64 a2_3] 71 (0, 0)) (up_ BK116.out)) : gb118 ≠ gb116)); have n11_ := aM ((by rw [hg]; exact Nat.ne_of_lt (blk_lt (g := gb117) (o := .cells #[.int .u64 0, .int .u64 0, .int .u64 0, .int .u64 0] 71 (0, 0)) (up_ BK117.out)) : gb117 ≠ gb118)); have n12_ := aM ((by rw [hg]; exact Nat.ne_of_gt (blk_lt (g := gb117) (o := .cells #[.int .u64 0, .int .u64 0, .int .u64 0, .int .u64 0] 71 (0, 0)) (up_ BK117.out)) : gb118 ≠ gb117)); clear BK115; clear BK116; clear BK117; clear HB; have BK115 := n0_; have BK116 := n1_; have BK117 := n2_; have HB := n3_; have BK118 := n4_; have GW118 := n5_; have GE118 := n6_; have NB115_118 := n7_; have NB118_115 := n8_; have NB116_118 := n9_; have NB118_116 := n10_; have NB117_118 := n11_; have NB118_117 := n12_; clear n0_ n1_ n2_ n3_ n4_ n5_ n6_ n7_ n8_ n9_ n10_ n11_ n12_; clear hb hbox hg; have hnb129 := NB115_116.out; have hnc129 := NB116_115.out; have hnb130 := NB115_117.out; have hnc130 := NB117_115.out; have hnb131 := NB115_118.out; have hnc131 := NB118_115.out; have hcz132_0 : w128.cell? ⟨gb115, 0, none⟩ = some (.int .i64 a0_0) := (blk_cell BK115.out 0).trans rfl; have hcz132_1 : w128.cell? ⟨gb115, 1, none⟩ = some (.slice A0_1 l0_1.length c0_1) := (blk_cell BK115.out 1).trans rfl; have hcz132_2 : w128.cell? ⟨gb115, 2, none⟩ = some (.slice A0_2 l0_2.length c0_2) := (blk_cell BK115.out 2).trans rfl; have hfz132_0 := bF BK115.out 0; have hfz132_1 := bF BK115.out 1; have hfz132_2 := bF BK115.out 2; have hnb133 := NB116_117.out; have hnc133 := NB117_116.out; have hnb134 := NB116_118.out; have hnc134 := NB118_116.out; have hcz135_0 : w128.cell? ⟨gb116, 0, none⟩ = some (.int .u64 a2_0) := (blk_cell BK116.out 0).trans rfl; have hcz135_1 : w128.cell? ⟨gb116, 1, none⟩ = some (.int .u64 a2_1) := (blk_cell BK116.out 1).trans rfl; have hcz135_2 : w128.cell? ⟨gb116, 2, none⟩ = some (.int .u64 a2_2) := (blk_cell BK116.out 2).trans rfl; have hcz135_3 : w128.cell? ⟨gb116, 3, none⟩ = some (.int .u64 a2_3) := (blk_cell BK116.out 3).trans rfl; have hfz135_0 := bF BK116.out 0; have hfz135_1 := bF BK116.out 1; have hfz135_2 := bF BK116.out 2; have hfz135_3 := bF BK116.out 3; have hnb136 := NB118_117.out; have hnc136 := NB117_118.out; have hcz137_0 : w128.cell? ⟨gb118, 0, none⟩ = some (.int .u64 0) := (blk_cell BK118.out 0).trans rfl; have hcz137_1 : w128.cell? ⟨gb118, 1, none⟩ = some (.int .u64 0) := (blk_cell BK118.out 1).trans rfl; have hcz137_2 : w128.cell? ⟨gb118, 2, none⟩ = some (.int .u64 0) := (blk_cell BK118.out 2).trans rfl; have hcz137_3 : w128.cell? ⟨gb118, 3, none⟩ = some (.int .u64 0) := (blk_cell BK118.out 3).trans rfl; have hfz137_0 := bF BK118.out 0; have hfz137_1 := bF BK118.out 1; have hfz137_2 := bF BK118.out 2; have hfz137_3 := bF BK118.out 3))
         repeat (go_step3; try go_wp2_with (fail))
         go_loopg [] k (fun kq w' => ∃ (x119000_1 : Int) (x119001_1 : Int) (x119002_1 : Int) (x119003_1 : Int), Aside0 (pat_ends.l3 kq l1 a0_0 l0_1 l0_2 x119000_1 x119001_1 x119002_1 x119003_1 = some (r1, r2, r3, r4)) ∧ Aside0 (kq ≤ k) ∧ Aside0 (w'.heap[gb115]? = some (.cells #[.int .i64 a0_0, (.slice A0_1 l0_1.length c0_1), (.slice A0_2 l0_2.length c0_2)] 25 (0, 0))) ∧ Aside0 (w'.heap[gb116]? = some (.cells #[.int .u64 a2_0, .int .u64 a2_1, .int .u64 a2_2, .int .u64 a2_3] 71 (0, 0))) ∧ Aside0 (w'.heap[gb117]? = some (.cells #[.int .u64 0, .int .u64 0, .int .u64 0, .int .u64 0] 71 (0, 0))) ∧ Aside0 (w'.heap[gb118]? = some (.cells #[.int .u64 x119000_1, .int .u64 x119001_1, .int .u64 x119002_1, .int .u64 x119003_1] 71 (0, 0))) ∧ Aside0 (Below w.heap.size w w'))
         case atStart => exact ⟨(a2_0), (a2_1), (a2_2), (a2_3), H', ⟨Nat.le_refl _⟩, ⟨by (with_reducible repeat (first | apply bkN | apply bkD | apply bkA)); refine blk_far ?_ NB115_118.out _; (with_reducible repeat (first | apply bkN | apply bkD | apply bkA)); refine blk_far ?_ NB115_118.out _; (with_reducible repeat (first | apply bkN | apply bkD | apply bkA)); refine blk_far ?_ NB115_118.out _; (with_reducible repeat (first | apply bkN | apply bkD | apply bkA)); refine blk_far ?_ NB115_118.out _; (with_reducible repeat (first | apply bkN | apply bkD | apply bkA)); exact BK115.out⟩, ⟨by (with_reducible repeat (first | apply bkN | apply bkD | apply bkA)); refine blk_far ?_ NB116_118.out _; (with_reducible repeat (first | apply bkN | apply bkD | apply bkA)); refine blk_far ?_ NB116_118.out _; (with_reducible repeat (first | apply bkN | apply bkD | apply bkA)); refine blk_far ?_ NB116_118.out _; (with_reducible repeat (first | apply bkN | apply bkD | apply bkA)); refine blk_far ?_ NB116_118.out _; (with_reducible repeat (first | apply bkN | apply bkD | apply bkA)); exact BK116.out⟩, ⟨by (with_reducible repeat (first | apply bkN | apply bkD | apply bkA)); refine blk_far ?_ NB117_118.out _; (with_reducible repeat (first | apply bkN | apply bkD | apply bkA)); refine blk_far ?_ NB117_118.out _; (with_reducible repeat (first | apply bkN | apply bkD | apply bkA)); refine blk_far ?_ NB117_118.out _; (with_reducible repeat (first | apply bkN | apply bkD | apply bkA)); refine blk_far ?_ NB117_118.out _; (with_reducible repeat (first | apply bkN | apply bkD | apply bkA)); exact BK117.out⟩, ⟨by (with_reducible repeat (first | apply bkN | apply bkD | apply bkA)); refine blk_put (cs := #[.int .u64 a2_0, .int .u64 a2_1, .int .u64 a2_2, .int .u64 0]) ?_ 3 _ rfl; (with_reducible repeat (first | apply bkN | apply bkD | apply bkA)); refine blk_put (cs := #[.int .u64 a2_0, .int .u64 a2_1, .int .u64 0, .int .u64 0]) ?_ 2 _ rfl; (with_reducible repeat (first | apply bkN | apply bkD | apply bkA)); refine blk_put (cs := #[.int .u64 a2_0, .int .u64 0, .int .u64 0, .int .u64 0]) ?_ 1 _ rfl; (with_reducible repeat (first | apply bkN | apply bkD | apply bkA)); refine blk_put (cs := #[.int .u64 0, .int .u64 0, .int .u64 0, .int .u64 0]) ?_ 0 _ rfl; (with_reducible repeat (first | apply bkN | apply bkD | apply bkA)); exact BK118.out⟩, ⟨by repeat (first | (with_reducible first | exact HB.out | apply blA | apply blN | apply blD | refine bS ?_ GE115.out | refine bS ?_ GE116.out | refine bS ?_ GE117.out | refine bS ?_ GE118.out) | exact HB.out)⟩⟩
         case round =>
          clear H'
          obtain ⟨x119000_1, x119001_1, x119002_1, x119003_1, HA, HK1, BK115, BK116, BK117, BK118, HB⟩ := hrel
          cases gk with
          | zero => exact absurd HA.out (by simp [pat_ends.l3])
          | succ k1 =>
           have H := HA.out
           clear HA
           simp only [pat_ends.l3] at H
           by_cases c138 : 0 < (l0_2.length : Int)
           · rw [if_pos c138] at H
             have c138b0 : decide (0 < (l0_2.length : Int)) = true := decide_eq_true c138
             have c138b1 : decide (0 < l0_2.length) = true := decide_eq_true (by omega)
             clear c138
             replace H := Option.bind_eq_some_iff.mp H
             obtain ⟨⟨t143, t144, t145, t146⟩, A1390, H⟩ := H
             replace H : ((pat_places_with.f x119000_1 x119001_1 x119002_1 x119003_1 t143 t144 t145 t146).bind fun bt147 => (if (bt147.1 == x119000_1 && (bt147.2.1 == x119001_1 && (bt147.2.2.1 == x119002_1 && (bt147.2.2.2 == x119003_1)))) = true then (some (x119000_1, x119001_1, x119002_1, x119003_1)) else (pat_ends.l3 k1 l1 a0_0 l0_1 l0_2 bt147.1 bt147.2.1 bt147.2.2.1 bt147.2.2.2))) = some (r1, r2, r3, r4) := H
             have A139 := aM A1390
             clear A1390
             replace H := Option.bind_eq_some_iff.mp H
             obtain ⟨⟨t147, t148, t149, t150⟩, A1400, H⟩ := H
             replace H : (if (t147 == x119000_1 && (t148 == x119001_1 && (t149 == x119002_1 && (t150 == x119003_1)))) = true then (some (x119000_1, x119001_1, x119002_1, x119003_1)) else (pat_ends.l3 k1 l1 a0_0 l0_1 l0_2 t147 t148 t149 t150)) = some (r1, r2, r3, r4) := H
             have A140 := aM A1400
             clear A1400
             by_cases c141 : (t147 == x119000_1 && (t148 == x119001_1 && (t149 == x119002_1 && (t150 == x119003_1)))) = true
             · rw [if_pos c141] at H
               have c141b0 : (t147 == x119000_1 && (t148 == x119001_1 && (t149 == x119002_1 && (t150 == x119003_1)))) = true := c141
               (try (have c141b1 : decide (t147 = x119000_1 && (t148 == x119001_1 && (t149 == x119002_1 && (t150 == x119003_1)))) = true := by simpa using c141))
               (try (have c141b2 : (t147 == x119000_1 && (t148 == x119001_1 && (t149 == x119002_1 && (t150 == x119003_1)))) = true := by simpa using c141))
               clear c141
               simp only [Option.some.injEq, Prod.mk.injEq] at H
               obtain ⟨rfl, rfl, rfl, rfl⟩ := H
               try go_wp2
               repeat (go_step3; try go_wp2_with (fail))
               have n0_ := aM (blk_drew BK115.out)
               have n1_ := aM (blk_drew BK116.out)
               have n2_ := aM (blk_drew BK117.out)
               have n3_ := aM (blk_drew BK118.out)
               have n4_ := aM (below_drew1 HB.out)
               clear BK115
               clear BK116
               clear BK117
               clear BK118
               clear HB
               have BK115 := n0_
               have BK116 := n1_
               have BK117 := n2_
               have BK118 := n3_
               have HB := n4_
               clear n0_ n1_ n2_ n3_ n4_
               have p142 : 0 ≤ (0 : Int) := (by omega)
               have q142 : 0 < (l0_2.length : Int) := of_decide_eq_true (by first | (with_reducible assumption) | assumption)
               obtain ⟨ad142, A142_1, c142_1, A142_2, c142_2, e142, hx142_0, hx142_1, hx142_2, hl142_1, hi142_1, hl142_2, hi142_2⟩ := at_T25 HR0_2.out 0 p142 q142
               have hw142_2 := hx142_2
               (try rw [show ((0 : Int)).toNat = 0 from rfl] at hw142_2)
               (try rw [show 0 * 3 = 0 from rfl] at hw142_2)
               (try rw [Addr.add_zero'] at hw142_2)
               have hw142_1 := hx142_1
               (try rw [show ((0 : Int)).toNat = 0 from rfl] at hw142_1)
               (try rw [show 0 * 3 = 0 from rfl] at hw142_1)
               (try rw [Addr.add_zero'] at hw142_1)
               have hw142_0 := hx142_0
               (try rw [show ((0 : Int)).toNat = 0 from rfl] at hw142_0)
               (try rw [show 0 * 3 = 0 from rfl] at hw142_0)
               (try rw [Addr.add_zero'] at hw142_0)
               cases e142
               have qi142 : (0 < l0_2.length) = True := eq_true (by omega)
               (try rw [show ((0 : Int)).toNat = 0 from rfl] at hx142_0)
               (try rw [show 0 * 3 = 0 from rfl] at hx142_0)
               (try rw [Addr.add_zero'] at hx142_0)
               (try rw [show ((0 : Int)).toNat = 0 from rfl] at hx142_1)
               (try rw [show 0 * 3 = 0 from rfl] at hx142_1)
               (try rw [Addr.add_zero'] at hx142_1)
               (try rw [show ((0 : Int)).toNat = 0 from rfl] at hx142_2)
               (try rw [show 0 * 3 = 0 from rfl] at hx142_2)
               (try rw [Addr.add_zero'] at hx142_2)
               replace hx142_0 := (HB.out.cell (World.block_lt_of_cell? w _ hx142_0)).trans hx142_0
               replace hx142_1 := (HB.out.cell (World.block_lt_of_cell? w _ hx142_1)).trans hx142_1
               replace hx142_2 := (HB.out.cell (World.block_lt_of_cell? w _ hx142_2)).trans hx142_2
               have HR142_1 := aM hi142_1
               have HC142_1 := aM hl142_1
               clear hi142_1 hl142_1
               have HR142_2 := aM hi142_2
               have HC142_2 := aM hl142_2
               clear hi142_2 hl142_2
               replace p142 := eq_true p142
               replace q142 := eq_true q142
               refine start_ (n := 11) (S := fun w' => True) (ds := []) (tf 0 11) (by kernel_rfl) rfl rfl trivial (fun hHeld => ?_); refine with_tabW pat_ends.tab25 pat_ends.bits25 (fun HT_ HW_ => ?_)
               generalize wr.drew = w142 at BK115 BK116 BK117 BK118 HB HR142_1 HR142_2 hx142_0 hx142_1 hx142_2 hHeld ⊢
               refine pure_ (i := 1) (N := some 74) (v := ?_) (a' := ?_) #[false, true, false, false, false, false, false, false, false, false, false] rfl rfl (any_of HT_.out (by kernel_rfl)) (fun _ _ _ h => h) (Or.inl ⟨by rfl, ?_⟩) ?_ ?_
               rotate_left
               · intro w'
                 go_simp
                 with_reducible rfl
               rotate_left
               · simp only [Act.put, sT, sZ, sS, i64_w, i32_w]
                 rfl
               refine pure_ (i := 5) (N := some 78) (v := ?_) (a' := ?_) #[false, true, false, false, false, true, false, false, false, false, false] rfl rfl (any_of HT_.out (by kernel_rfl)) (fun _ _ _ h => h) (Or.inl ⟨by rfl, ?_⟩) ?_ ?_
               rotate_left
               · intro w'
                 go_simp
                 with_reducible rfl
               rotate_left
               · simp only [Act.put, sT, sZ, sS, i64_w, i32_w]
                 rfl
               refine inv_at [0, 2, 3, 4, 6, 7, 8, 9, 10] (fun a0_ b a w' => ∃ (gb151 : Nat) (m9_ : Value), a = putSel a0_ b [(0, 73, .agg #[.int .u64 x119000_1, .int .u64 x119001_1, .int .u64 x119002_1, .int .u64 x119003_1]), (2, 75, .slice (some ad142) l0_2.length c0_2), (3, 76, .pointer (some ad142)), (4, 77, .agg #[.int .i64 ((rd_T25 l0_2 0).f0), .slice A142_1 ((rd_T25 l0_2 0).f1).length c142_1, .slice A142_2 ((rd_T25 l0_2 0).f2).length c142_2]), (6, 79, .agg #[.int .u64 x119000_1, .int .u64 x119001_1, .int .u64 x119002_1, .int .u64 x119003_1]), (7, 80, .agg #[.int .u64 t143, .int .u64 t144, .int .u64 t145, .int .u64 t146]), (8, 81, .agg #[.int .u64 t147, .int .u64 t148, .int .u64 t149, .int .u64 t150]), (9, 14, m9_)] ∧ (w'.heap[gb115]? = some (.cells #[.int .i64 a0_0, .slice A0_1 l0_1.length c0_1, .slice (some ad142) l0_2.length c0_2] 25 (0, 0))) ∧ (w'.heap[gb116]? = some (.cells #[.int .u64 a2_0, .int .u64 a2_1, .int .u64 a2_2, .int .u64 a2_3] 71 (0, 0))) ∧ (w'.heap[gb117]? = some (.cells #[.int .u64 0, .int .u64 0, .int .u64 0, .int .u64 0] 71 (0, 0))) ∧ (w'.heap[gb118]? = some (.cells #[.int .u64 x119000_1, .int .u64 x119001_1, .int .u64 x119002_1, .int .u64 x119003_1] 71 (0, 0))) ∧ (Below w.heap.size w w') ∧ (b 9 = true → b 10 = false → w'.heap[gb151]? = some (.cells #[.int .u64 0, .int .u64 0, .int .u64 0, .int .u64 0] 71 (0, 0))) ∧ (b 9 = true → w.heap.size ≤ gb151) ∧ (b 9 = true → w.heap.size ≤ gb151) ∧ (b 9 = true → gb115 ≠ gb151) ∧ (b 9 = true → gb151 ≠ gb115) ∧ (b 9 = true → gb116 ≠ gb151) ∧ (b 9 = true → gb151 ≠ gb116) ∧ (b 9 = true → gb117 ≠ gb151) ∧ (b 9 = true → gb151 ≠ gb117) ∧ (b 9 = true → gb118 ≠ gb151) ∧ (b 9 = true → gb151 ≠ gb118) ∧ (b 10 = true → w'.heap[gb151]? = some (.cells #[.int .u64 t147, .int .u64 t148, .int .u64 t149, .int .u64 t150] 71 (0, 0))) ∧ (b 9 = true → (m9_ : Value) = .pointer (some ⟨gb151, 0, none⟩))) HT_.out HW_.out (by kernel_rfl) (by kernel_rfl) ?_ ?_ ?_
               · exact ⟨0, .bool false, by simp only [putSel, Bool.false_eq_true, if_false], BK115.out, BK116.out, BK117.out, BK118.out, HB.out, fun h_ => absurd h_ (by decide), fun h_ => absurd h_ (by decide), fun h_ => absurd h_ (by decide), fun h_ => absurd h_ (by decide), fun h_ => absurd h_ (by decide), fun h_ => absurd h_ (by decide), fun h_ => absurd h_ (by decide), fun h_ => absurd h_ (by decide), fun h_ => absurd h_ (by decide), fun h_ => absurd h_ (by decide), fun h_ => absurd h_ (by decide), fun h_ => absurd h_ (by decide), fun h_ => absurd h_ (by decide)⟩
               · skip
                 clear BK115 BK116 BK117 BK118 HB
                 refine steps_cons ?_ ?_
                 · rintro b a w' ⟨gb151, m9_, ha, Q_BK115, Q_BK116, Q_BK117, Q_BK118, Q_HB, Q_BK151, Q_GW151, Q_GE151, Q_NB115_151, Q_NB151_115, Q_NB116_151, Q_NB151_116, Q_NB117_151, Q_NB151_117, Q_NB118_151, Q_NB151_118, Q_BK151_e10, Q_X9_⟩ hb_ hon hoff
                   refine ⟨_, rfl, fun K hK => ?_⟩
                   have e7 : a.tmps[7]? = some (.pointer (some ⟨gb118, 0, none⟩)) := by rw [ha]; exact (putSel_off rfl).trans rfl
                   replace ha := aM ha
                   have BK115 := aM Q_BK115
                   have BK116 := aM Q_BK116
                   have BK117 := aM Q_BK117
                   have BK118 := aM Q_BK118
                   have HB := aM Q_HB
                   have hc0_ : w'.cell? ⟨gb118, 0, none⟩ = some (.int .u64 x119000_1) := (blk_cell BK118.out 0).trans rfl
                   have hc1_ : w'.cell? ⟨gb118, 1, none⟩ = some (.int .u64 x119001_1) := (blk_cell BK118.out 1).trans rfl
                   have hc2_ : w'.cell? ⟨gb118, 2, none⟩ = some (.int .u64 x119002_1) := (blk_cell BK118.out 2).trans rfl
                   have hc3_ : w'.cell? ⟨gb118, 3, none⟩ = some (.int .u64 x119003_1) := (blk_cell BK118.out 3).trans rfl
                   refine value_ (w1 := w') (v := .agg #[.int .u64 x119000_1, .int .u64 x119001_1, .int .u64 x119002_1, .int .u64 x119003_1]) (by rfl) rfl ?_ ?_
                   · go_simp
                     (try simp only [i64_w])
                     try rfl
                   refine hK.out _ _ ⟨gb151, m9_, (by rw [ha.out]; exact putSel_upk 0 hb_ rfl rfl rfl), Q_BK115, Q_BK116, Q_BK117, Q_BK118, Q_HB, Q_BK151, Q_GW151, Q_GE151, Q_NB115_151, Q_NB151_115, Q_NB116_151, Q_NB151_116, Q_NB117_151, Q_NB151_117, Q_NB118_151, Q_NB151_118, fun h0_ => absurd ((hoff 10 (by kernel_rfl)).symm.trans h0_) (by decide), Q_X9_⟩
                 refine steps_cons ?_ ?_
                 · rintro b a w' ⟨gb151, m9_, ha, Q_BK115, Q_BK116, Q_BK117, Q_BK118, Q_HB, Q_BK151, Q_GW151, Q_GE151, Q_NB115_151, Q_NB151_115, Q_NB116_151, Q_NB151_116, Q_NB117_151, Q_NB151_117, Q_NB118_151, Q_NB151_118, Q_BK151_e10, Q_X9_⟩ hb_ hon hoff
                   refine ⟨_, rfl, fun K hK => ?_⟩
                   have e74 : a.tmps[74]? = some (.pointer (some ⟨gb115, 2, none⟩)) := by rw [ha]; exact (putSel_off rfl).trans rfl
                   replace ha := aM ha
                   have BK115 := aM Q_BK115
                   have BK116 := aM Q_BK116
                   have BK117 := aM Q_BK117
                   have BK118 := aM Q_BK118
                   have HB := aM Q_HB
                   have hc0_ : w'.cell? ⟨gb115, 0, none⟩ = some (.int .i64 a0_0) := (blk_cell BK115.out 0).trans rfl
                   have hc1_ : w'.cell? ⟨gb115, 1, none⟩ = some (.slice A0_1 l0_1.length c0_1) := (blk_cell BK115.out 1).trans rfl
                   have hc2_ : w'.cell? ⟨gb115, 2, none⟩ = some (.slice (some ad142) l0_2.length c0_2) := (blk_cell BK115.out 2).trans rfl
                   refine value_ (w1 := w') (v := .slice (some ad142) l0_2.length c0_2) (by rfl) rfl ?_ ?_
                   · go_simp
                     (try simp only [i64_w])
                     try rfl
                   refine hK.out _ _ ⟨gb151, m9_, (by rw [ha.out]; exact putSel_upk 1 hb_ rfl rfl rfl), Q_BK115, Q_BK116, Q_BK117, Q_BK118, Q_HB, Q_BK151, Q_GW151, Q_GE151, Q_NB115_151, Q_NB151_115, Q_NB116_151, Q_NB151_116, Q_NB117_151, Q_NB151_117, Q_NB118_151, Q_NB151_118, fun h0_ => absurd ((hoff 10 (by kernel_rfl)).symm.trans h0_) (by decide), Q_X9_⟩
                 refine steps_cons ?_ ?_
                 · rintro b a w' ⟨gb151, m9_, ha, Q_BK115, Q_BK116, Q_BK117, Q_BK118, Q_HB, Q_BK151, Q_GW151, Q_GE151, Q_NB115_151, Q_NB151_115, Q_NB116_151, Q_NB151_116, Q_NB117_151, Q_NB151_117, Q_NB118_151, Q_NB151_118, Q_BK151_e10, Q_X9_⟩ hb_ hon hoff
                   refine ⟨_, rfl, fun K hK => ?_⟩
                   have e75 : a.tmps[75]? = some (.slice (some ad142) l0_2.length c0_2) := by rw [ha]; exact putSel_on (e := (2, 75, .slice (some ad142) l0_2.length c0_2)) 1 rfl rfl (hon 2 (by kernel_rfl)) rfl
                   replace ha := aM ha
                   have BK115 := aM Q_BK115
                   have BK116 := aM Q_BK116
                   have BK117 := aM Q_BK117
                   have BK118 := aM Q_BK118
                   have HB := aM Q_HB
                   have hs0_ : w'.cell? ad142 = some (.int .i64 ((rd_T25 l0_2 0).f0)) := ((HB.out.cell (World.block_lt_of_cell? w _ hw142_0)).trans hw142_0)
                   have hs1_ : w'.cell? ⟨ad142.block, ad142.off + 1, none⟩ = some (.slice A142_1 ((rd_T25 l0_2 0).f1).length c142_1) := ((HB.out.cell (World.block_lt_of_cell? w _ hw142_1)).trans hw142_1)
                   have hs2_ : w'.cell? ⟨ad142.block, ad142.off + 2, none⟩ = some (.slice A142_2 ((rd_T25 l0_2 0).f2).length c142_2) := ((HB.out.cell (World.block_lt_of_cell? w _ hw142_2)).trans hw142_2)
                   refine value_ (w1 := w') (v := .pointer (some ad142)) (by rfl) rfl ?_ ?_
                   · go_simp
                     (try simp only [i64_w])
                     try rfl
                   refine hK.out _ _ ⟨gb151, m9_, (by rw [ha.out]; exact putSel_upk 2 hb_ rfl rfl rfl), Q_BK115, Q_BK116, Q_BK117, Q_BK118, Q_HB, Q_BK151, Q_GW151, Q_GE151, Q_NB115_151, Q_NB151_115, Q_NB116_151, Q_NB151_116, Q_NB117_151, Q_NB151_117, Q_NB118_151, Q_NB151_118, fun h0_ => absurd ((hoff 10 (by kernel_rfl)).symm.trans h0_) (by decide), Q_X9_⟩
                 refine steps_cons ?_ ?_
                 · rintro b a w' ⟨gb151, m9_, ha, Q_BK115, Q_BK116, Q_BK117, Q_BK118, Q_HB, Q_BK151, Q_GW151, Q_GE151, Q_NB115_151, Q_NB151_115, Q_NB116_151, Q_NB151_116, Q_NB117_151, Q_NB151_117, Q_NB118_151, Q_NB151_118, Q_BK151_e10, Q_X9_⟩ hb_ hon hoff
                   refine ⟨_, rfl, fun K hK => ?_⟩
                   have e76 : a.tmps[76]? = some (.pointer (some ad142)) := by rw [ha]; exact putSel_on (e := (3, 76, .pointer (some ad142))) 2 rfl rfl (hon 3 (by kernel_rfl)) rfl
                   replace ha := aM ha
                   have BK115 := aM Q_BK115
                   have BK116 := aM Q_BK116
                   have BK117 := aM Q_BK117
                   have BK118 := aM Q_BK118
                   have HB := aM Q_HB
                   have hs0_ : w'.cell? ad142 = some (.int .i64 ((rd_T25 l0_2 0).f0)) := ((HB.out.cell (World.block_lt_of_cell? w _ hw142_0)).trans hw142_0)
                   have hs1_ : w'.cell? ⟨ad142.block, ad142.off + 1, none⟩ = some (.slice A142_1 ((rd_T25 l0_2 0).f1).length c142_1) := ((HB.out.cell (World.block_lt_of_cell? w _ hw142_1)).trans hw142_1)
                   have hs2_ : w'.cell? ⟨ad142.block, ad142.off + 2, none⟩ = some (.slice A142_2 ((rd_T25 l0_2 0).f2).length c142_2) := ((HB.out.cell (World.block_lt_of_cell? w _ hw142_2)).trans hw142_2)
                   refine value_ (w1 := w') (v := .agg #[.int .i64 ((rd_T25 l0_2 0).f0), .slice A142_1 ((rd_T25 l0_2 0).f1).length c142_1, .slice A142_2 ((rd_T25 l0_2 0).f2).length c142_2]) (by rfl) rfl ?_ ?_
                   · go_simp
                     (try simp only [i64_w])
                     try rfl
                   refine hK.out _ _ ⟨gb151, m9_, (by rw [ha.out]; exact putSel_upk 3 hb_ rfl rfl rfl), Q_BK115, Q_BK116, Q_BK117, Q_BK118, Q_HB, Q_BK151, Q_GW151, Q_GE151, Q_NB115_151, Q_NB151_115, Q_NB116_151, Q_NB151_116, Q_NB117_151, Q_NB151_117, Q_NB118_151, Q_NB151_118, fun h0_ => absurd ((hoff 10 (by kernel_rfl)).symm.trans h0_) (by decide), Q_X9_⟩
                 refine steps_cons ?_ ?_
                 · rintro b a w' ⟨gb151, m9_, ha, Q_BK115, Q_BK116, Q_BK117, Q_BK118, Q_HB, Q_BK151, Q_GW151, Q_GE151, Q_NB115_151, Q_NB151_115, Q_NB116_151, Q_NB151_116, Q_NB117_151, Q_NB151_117, Q_NB118_151, Q_NB151_118, Q_BK151_e10, Q_X9_⟩ hb_ hon hoff
                   refine ⟨_, rfl, fun K hK => ?_⟩
                   have e7 : a.tmps[7]? = some (.pointer (some ⟨gb118, 0, none⟩)) := by rw [ha]; exact (putSel_off rfl).trans rfl
                   replace ha := aM ha
                   have BK115 := aM Q_BK115
                   have BK116 := aM Q_BK116
                   have BK117 := aM Q_BK117
                   have BK118 := aM Q_BK118
                   have HB := aM Q_HB
                   have hc0_ : w'.cell? ⟨gb118, 0, none⟩ = some (.int .u64 x119000_1) := (blk_cell BK118.out 0).trans rfl
                   have hc1_ : w'.cell? ⟨gb118, 1, none⟩ = some (.int .u64 x119001_1) := (blk_cell BK118.out 1).trans rfl
                   have hc2_ : w'.cell? ⟨gb118, 2, none⟩ = some (.int .u64 x119002_1) := (blk_cell BK118.out 2).trans rfl
                   have hc3_ : w'.cell? ⟨gb118, 3, none⟩ = some (.int .u64 x119003_1) := (blk_cell BK118.out 3).trans rfl
                   refine value_ (w1 := w') (v := .agg #[.int .u64 x119000_1, .int .u64 x119001_1, .int .u64 x119002_1, .int .u64 x119003_1]) (by rfl) rfl ?_ ?_
                   · go_simp
                     (try simp only [i64_w])
                     try rfl
                   refine hK.out _ _ ⟨gb151, m9_, (by rw [ha.out]; exact putSel_upk 4 hb_ rfl rfl rfl), Q_BK115, Q_BK116, Q_BK117, Q_BK118, Q_HB, Q_BK151, Q_GW151, Q_GE151, Q_NB115_151, Q_NB151_115, Q_NB116_151, Q_NB151_116, Q_NB117_151, Q_NB151_117, Q_NB118_151, Q_NB151_118, fun h0_ => absurd ((hoff 10 (by kernel_rfl)).symm.trans h0_) (by decide), Q_X9_⟩
                 refine steps_cons ?_ ?_
                 · rintro b a w' ⟨gb151, m9_, ha, Q_BK115, Q_BK116, Q_BK117, Q_BK118, Q_HB, Q_BK151, Q_GW151, Q_GE151, Q_NB115_151, Q_NB151_115, Q_NB116_151, Q_NB151_116, Q_NB117_151, Q_NB151_117, Q_NB118_151, Q_NB151_118, Q_BK151_e10, Q_X9_⟩ hb_ hon hoff
                   refine ⟨_, rfl, fun K hK => ?_⟩
                   have e77 : a.tmps[77]? = some (.agg #[.int .i64 ((rd_T25 l0_2 0).f0), .slice A142_1 ((rd_T25 l0_2 0).f1).length c142_1, .slice A142_2 ((rd_T25 l0_2 0).f2).length c142_2]) := by rw [ha]; exact putSel_on (e := (4, 77, .agg #[.int .i64 ((rd_T25 l0_2 0).f0), .slice A142_1 ((rd_T25 l0_2 0).f1).length c142_1, .slice A142_2 ((rd_T25 l0_2 0).f2).length c142_2])) 3 rfl rfl (hon 4 (by kernel_rfl)) rfl
                   have e78 : a.tmps[78]? = some (.slice A1 l1.length c1) := by rw [ha]; exact (putSel_off rfl).trans rfl
                   have e79 : a.tmps[79]? = some (.agg #[.int .u64 x119000_1, .int .u64 x119001_1, .int .u64 x119002_1, .int .u64 x119003_1]) := by rw [ha]; exact putSel_on (e := (6, 79, .agg #[.int .u64 x119000_1, .int .u64 x119001_1, .int .u64 x119002_1, .int .u64 x119003_1])) 4 rfl rfl (hon 6 (by kernel_rfl)) rfl
                   replace ha := aM ha
                   have BK115 := aM Q_BK115
                   have BK116 := aM Q_BK116
                   have BK117 := aM Q_BK117
                   have BK118 := aM Q_BK118
                   have HB := aM Q_HB
                   refine goes_ Try.func46 (by kernel_rfl) rfl #[.agg #[.int .i64 ((rd_T25 l0_2 0).f0), .slice A142_1 ((rd_T25 l0_2 0).f1).length c142_1, .slice A142_2 ((rd_T25 l0_2 0).f2).length c142_2], .slice A1 l1.length c1, .agg #[.int .u64 x119000_1, .int .u64 x119001_1, .int .u64 x119002_1, .int .u64 x119003_1]] (by rfl) rfl rfl (by first | (simp only [List.map_toArray, List.map_cons, List.map_nil, Act.eval, Array.getD_eq_getD_getElem?, Option.getD_some, e77, e78, e79]; done) | (simp only [List.map_toArray, List.map_cons, List.map_nil, Act.eval, Array.getD_eq_getD_getElem?, Option.getD_some, e77, e78, e79]; rfl)) ?_
                   with_reducible refine (ih k1 (by have := HK1.out; omega) ((rd_T25 l0_2 0).f0) _ _ ((rd_T25 l0_2 0).f1) _ _ ((rd_T25 l0_2 0).f2) _ _ l1 x119000_1 x119001_1 x119002_1 x119003_1 t143 t144 t145 t146 _ ?side1 ?side2 ?side3 ?side4 ?side5 ?side6 A139.out).mono ?_
                   (case side1 => repeat (first | exact (Kd.C_below HR142_1.out HB.out) | (with_reducible refine Kd.C_alloc ?_ _) | (with_reducible refine Kd.C_drewN ?_ _) | (with_reducible refine Kd.C_drew ?_)))
                   (case side2 => exact HC142_1.out)
                   (case side3 => repeat (first | exact (Kd.C_below HR142_2.out HB.out) | (with_reducible refine Kd.C_alloc ?_ _) | (with_reducible refine Kd.C_drewN ?_ _) | (with_reducible refine Kd.C_drew ?_)))
                   (case side4 => exact HC142_2.out)
                   (case side5 => repeat (first | exact (Kd.C_below HR1.out HB.out) | (with_reducible refine Kd.C_alloc ?_ _) | (with_reducible refine Kd.C_drewN ?_ _) | (with_reducible refine Kd.C_drew ?_)))
                   (case side6 => exact HC1.out)
                   rintro e w143 ⟨rfl, hb⟩
                   refine ⟨_, rfl, ?_⟩
                   have n0_ := aM (blk_below (g := gb115) (o := .cells #[.int .i64 a0_0, .slice A0_1 l0_1.length c0_1, .slice (some ad142) l0_2.length c0_2] 25 (0, 0)) (up_ BK115.out) hb)
                   have n1_ := aM (blk_below (g := gb116) (o := .cells #[.int .u64 a2_0, .int .u64 a2_1, .int .u64 a2_2, .int .u64 a2_3] 71 (0, 0)) (up_ BK116.out) hb)
                   have n2_ := aM (blk_below (g := gb117) (o := .cells #[.int .u64 0, .int .u64 0, .int .u64 0, .int .u64 0] 71 (0, 0)) (up_ BK117.out) hb)
                   have n3_ := aM (blk_below (g := gb118) (o := .cells #[.int .u64 x119000_1, .int .u64 x119001_1, .int .u64 x119002_1, .int .u64 x119003_1] 71 (0, 0)) (up_ BK118.out) hb)
                   have n4_ := aM (below_step (bw_ HB.out) hb)
                   have z_BK151 := fun (h0_ : b 9 = true) (h1_ : b 10 = false) => (show w143.heap[gb151]? = some (.cells #[.int .u64 0, .int .u64 0, .int .u64 0, .int .u64 0] 71 (0, 0)) from by first | exact (blk_below (g := gb151) (o := .cells #[.int .u64 0, .int .u64 0, .int .u64 0, .int .u64 0] 71 (0, 0)) (up_ (Q_BK151 h0_ h1_)) hb))
                   clear BK115
                   clear BK116
                   clear BK117
                   clear BK118
                   clear HB
                   have BK115 := n0_
                   have BK116 := n1_
                   have BK117 := n2_
                   have BK118 := n3_
                   have HB := n4_
                   clear n0_ n1_ n2_ n3_ n4_
                   (try clear hb)
                   (try clear hb2)
                   (try clear hk)
                   (try clear hi)
                   refine hK.out _ _ ⟨gb151, m9_, (by rw [ha.out]; exact putSel_upk 5 hb_ rfl rfl rfl), (up_ BK115.out), (up_ BK116.out), (up_ BK117.out), (up_ BK118.out), (bw_ HB.out), z_BK151, Q_GW151, Q_GE151, Q_NB115_151, Q_NB151_115, Q_NB116_151, Q_NB151_116, Q_NB117_151, Q_NB151_117, Q_NB118_151, Q_NB151_118, fun h0_ => absurd ((hoff 10 (by kernel_rfl)).symm.trans h0_) (by decide), Q_X9_⟩
                 refine steps_cons ?_ ?_
                 · rintro b a w' ⟨gb151, m9_, ha, Q_BK115, Q_BK116, Q_BK117, Q_BK118, Q_HB, Q_BK151, Q_GW151, Q_GE151, Q_NB115_151, Q_NB151_115, Q_NB116_151, Q_NB151_116, Q_NB117_151, Q_NB151_117, Q_NB118_151, Q_NB151_118, Q_BK151_e10, Q_X9_⟩ hb_ hon hoff
                   refine ⟨_, rfl, fun K hK => ?_⟩
                   have e73 : a.tmps[73]? = some (.agg #[.int .u64 x119000_1, .int .u64 x119001_1, .int .u64 x119002_1, .int .u64 x119003_1]) := by rw [ha]; exact putSel_on (e := (0, 73, .agg #[.int .u64 x119000_1, .int .u64 x119001_1, .int .u64 x119002_1, .int .u64 x119003_1])) 0 rfl rfl (hon 0 (by kernel_rfl)) rfl
                   have e80 : a.tmps[80]? = some (.agg #[.int .u64 t143, .int .u64 t144, .int .u64 t145, .int .u64 t146]) := by rw [ha]; exact putSel_on (e := (7, 80, .agg #[.int .u64 t143, .int .u64 t144, .int .u64 t145, .int .u64 t146])) 5 rfl rfl (hon 7 (by kernel_rfl)) rfl
                   replace ha := aM ha
                   have BK115 := aM Q_BK115
                   have BK116 := aM Q_BK116
                   have BK117 := aM Q_BK117
                   have BK118 := aM Q_BK118
                   have HB := aM Q_HB
                   refine goes_ Try.func82 (by kernel_rfl) rfl #[.agg #[.int .u64 x119000_1, .int .u64 x119001_1, .int .u64 x119002_1, .int .u64 x119003_1], .agg #[.int .u64 t143, .int .u64 t144, .int .u64 t145, .int .u64 t146]] (by rfl) rfl rfl (by first | (simp only [List.map_toArray, List.map_cons, List.map_nil, Act.eval, Array.getD_eq_getD_getElem?, Option.getD_some, e73, e80]; done) | (simp only [List.map_toArray, List.map_cons, List.map_nil, Act.eval, Array.getD_eq_getD_getElem?, Option.getD_some, e73, e80]; rfl)) ?_
                   with_reducible refine (pat_places_with.calls x119000_1 x119001_1 x119002_1 x119003_1 t143 t144 t145 t146 t147 t148 t149 t150 _ A140.out).mono ?_
                   rintro e w145 ⟨rfl, hb⟩
                   refine ⟨_, rfl, ?_⟩
                   have n0_ := aM (blk_below (g := gb115) (o := .cells #[.int .i64 a0_0, .slice A0_1 l0_1.length c0_1, .slice (some ad142) l0_2.length c0_2] 25 (0, 0)) (up_ BK115.out) hb)
                   have n1_ := aM (blk_below (g := gb116) (o := .cells #[.int .u64 a2_0, .int .u64 a2_1, .int .u64 a2_2, .int .u64 a2_3] 71 (0, 0)) (up_ BK116.out) hb)
                   have n2_ := aM (blk_below (g := gb117) (o := .cells #[.int .u64 0, .int .u64 0, .int .u64 0, .int .u64 0] 71 (0, 0)) (up_ BK117.out) hb)
                   have n3_ := aM (blk_below (g := gb118) (o := .cells #[.int .u64 x119000_1, .int .u64 x119001_1, .int .u64 x119002_1, .int .u64 x119003_1] 71 (0, 0)) (up_ BK118.out) hb)
                   have n4_ := aM (below_step (bw_ HB.out) hb)
                   have z_BK151 := fun (h0_ : b 9 = true) (h1_ : b 10 = false) => (show w145.heap[gb151]? = some (.cells #[.int .u64 0, .int .u64 0, .int .u64 0, .int .u64 0] 71 (0, 0)) from by first | exact (blk_below (g := gb151) (o := .cells #[.int .u64 0, .int .u64 0, .int .u64 0, .int .u64 0] 71 (0, 0)) (up_ (Q_BK151 h0_ h1_)) hb))
                   clear BK115
                   clear BK116
                   clear BK117
                   clear BK118
                   clear HB
                   have BK115 := n0_
                   have BK116 := n1_
                   have BK117 := n2_
                   have BK118 := n3_
                   have HB := n4_
                   clear n0_ n1_ n2_ n3_ n4_
                   (try clear hb)
                   (try clear hb2)
                   (try clear hk)
                   (try clear hi)
                   refine hK.out _ _ ⟨gb151, m9_, (by rw [ha.out]; exact putSel_upk 6 hb_ rfl rfl rfl), (up_ BK115.out), (up_ BK116.out), (up_ BK117.out), (up_ BK118.out), (bw_ HB.out), z_BK151, Q_GW151, Q_GE151, Q_NB115_151, Q_NB151_115, Q_NB116_151, Q_NB151_116, Q_NB117_151, Q_NB151_117, Q_NB118_151, Q_NB151_118, fun h0_ => absurd ((hoff 10 (by kernel_rfl)).symm.trans h0_) (by decide), Q_X9_⟩
                 refine steps_cons ?_ ?_
                 · rintro b a w' ⟨gb151, m9_, ha, Q_BK115, Q_BK116, Q_BK117, Q_BK118, Q_HB, Q_BK151, Q_GW151, Q_GE151, Q_NB115_151, Q_NB151_115, Q_NB116_151, Q_NB151_116, Q_NB117_151, Q_NB151_117, Q_NB118_151, Q_NB151_118, Q_BK151_e10, Q_X9_⟩ hb_ hon hoff
                   refine ⟨_, rfl, fun K hK => ?_⟩
                   replace ha := aM ha
                   have BK115 := aM Q_BK115
                   have BK116 := aM Q_BK116
                   have BK117 := aM Q_BK117
                   have BK118 := aM Q_BK118
                   have HB := aM Q_HB
                   refine box_step ?hg (N := 14) ?hd (cs := #[.int .u64 0, .int .u64 0, .int .u64 0, .int .u64 0]) (t := 71) ?hr ?_; (case hd => rfl); (case hg => rfl); (case hr => first | (go_simp; done) | (go_simp; rfl))
                   intro gb151 hg w143 hbox hb
                   have n0_ := aM (blk_below (g := gb115) (o := .cells #[.int .i64 a0_0, .slice A0_1 l0_1.length c0_1, .slice (some ad142) l0_2.length c0_2] 25 (0, 0)) (up_ BK115.out) hb)
                   have n1_ := aM (blk_below (g := gb116) (o := .cells #[.int .u64 a2_0, .int .u64 a2_1, .int .u64 a2_2, .int .u64 a2_3] 71 (0, 0)) (up_ BK116.out) hb)
                   have n2_ := aM (blk_below (g := gb117) (o := .cells #[.int .u64 0, .int .u64 0, .int .u64 0, .int .u64 0] 71 (0, 0)) (up_ BK117.out) hb)
                   have n3_ := aM (blk_below (g := gb118) (o := .cells #[.int .u64 x119000_1, .int .u64 x119001_1, .int .u64 x119002_1, .int .u64 x119003_1] 71 (0, 0)) (up_ BK118.out) hb)
                   have n4_ := aM (below_step (bw_ HB.out) hb)
                   have n5_ := aM (hbox)
                   have n6_ := aM ((by rw [hg]; exact (below_size (bw_ HB.out)) : w.heap.size ≤ gb151))
                   have n7_ := aM ((by rw [hg]; exact (below_size (bw_ HB.out)) : w.heap.size ≤ gb151))
                   have n8_ := aM ((by rw [hg]; exact Nat.ne_of_lt (blk_lt (g := gb115) (o := .cells #[.int .i64 a0_0, .slice A0_1 l0_1.length c0_1, .slice (some ad142) l0_2.length c0_2] 25 (0, 0)) (up_ BK115.out)) : gb115 ≠ gb151))
                   have n9_ := aM ((by rw [hg]; exact Nat.ne_of_gt (blk_lt (g := gb115) (o := .cells #[.int .i64 a0_0, .slice A0_1 l0_1.length c0_1, .slice (some ad142) l0_2.length c0_2] 25 (0, 0)) (up_ BK115.out)) : gb151 ≠ gb115))
                   have n10_ := aM ((by rw [hg]; exact Nat.ne_of_lt (blk_lt (g := gb116) (o := .cells #[.int .u64 a2_0, .int .u64 a2_1, .int .u64 a2_2, .int .u64 a2_3] 71 (0, 0)) (up_ BK116.out)) : gb116 ≠ gb151))
                   have n11_ := aM ((by rw [hg]; exact Nat.ne_of_gt (blk_lt (g := gb116) (o := .cells #[.int .u64 a2_0, .int .u64 a2_1, .int .u64 a2_2, .int .u64 a2_3] 71 (0, 0)) (up_ BK116.out)) : gb151 ≠ gb116))
                   have n12_ := aM ((by rw [hg]; exact Nat.ne_of_lt (blk_lt (g := gb117) (o := .cells #[.int .u64 0, .int .u64 0, .int .u64 0, .int .u64 0] 71 (0, 0)) (up_ BK117.out)) : gb117 ≠ gb151))
                   have n13_ := aM ((by rw [hg]; exact Nat.ne_of_gt (blk_lt (g := gb117) (o := .cells #[.int .u64 0, .int .u64 0, .int .u64 0, .int .u64 0] 71 (0, 0)) (up_ BK117.out)) : gb151 ≠ gb117))
                   have n14_ := aM ((by rw [hg]; exact Nat.ne_of_lt (blk_lt (g := gb118) (o := .cells #[.int .u64 x119000_1, .int .u64 x119001_1, .int .u64 x119002_1, .int .u64 x119003_1] 71 (0, 0)) (up_ BK118.out)) : gb118 ≠ gb151))
                   have n15_ := aM ((by rw [hg]; exact Nat.ne_of_gt (blk_lt (g := gb118) (o := .cells #[.int .u64 x119000_1, .int .u64 x119001_1, .int .u64 x119002_1, .int .u64 x119003_1] 71 (0, 0)) (up_ BK118.out)) : gb151 ≠ gb118))
                   clear BK115
                   clear BK116
                   clear BK117
                   clear BK118
                   clear HB
                   have BK115 := n0_
                   have BK116 := n1_
                   have BK117 := n2_
                   have BK118 := n3_
                   have HB := n4_
                   have BK151 := n5_
                   have GW151 := n6_
                   have GE151 := n7_
                   have NB115_151 := n8_
                   have NB151_115 := n9_
                   have NB116_151 := n10_
                   have NB151_116 := n11_
                   have NB117_151 := n12_
                   have NB151_117 := n13_
                   have NB118_151 := n14_
                   have NB151_118 := n15_
                   clear n0_ n1_ n2_ n3_ n4_ n5_ n6_ n7_ n8_ n9_ n10_ n11_ n12_ n13_ n14_ n15_
                   clear hb hbox hg
                   refine hK.out _ _ ⟨gb151, (.pointer (some ⟨gb151, 0, none⟩)), (by rw [ha.out]; exact putSel_upk 7 hb_ rfl rfl rfl), (up_ BK115.out), (up_ BK116.out), (up_ BK117.out), (up_ BK118.out), (bw_ HB.out), fun _ _ => (up_ BK151.out), fun _ => GW151.out, fun _ => GE151.out, fun _ => NB115_151.out, fun _ => NB151_115.out, fun _ => NB116_151.out, fun _ => NB151_116.out, fun _ => NB117_151.out, fun _ => NB151_117.out, fun _ => NB118_151.out, fun _ => NB151_118.out, fun h0_ => absurd ((hoff 10 (by kernel_rfl)).symm.trans h0_) (by decide), fun _ => rfl⟩
                 refine steps_cons ?_ ?_
                 · rintro b a w' ⟨gb151, m9_, ha, Q_BK115, Q_BK116, Q_BK117, Q_BK118, Q_HB, Q_BK151, Q_GW151, Q_GE151, Q_NB115_151, Q_NB151_115, Q_NB116_151, Q_NB151_116, Q_NB117_151, Q_NB151_117, Q_NB118_151, Q_NB151_118, Q_BK151_e10, Q_X9_⟩ hb_ hon hoff
                   refine ⟨_, rfl, fun K hK => ?_⟩
                   have e14 : a.tmps[14]? = some (m9_) := by rw [ha]; exact putSel_on (e := (9, 14, m9_)) 7 rfl rfl (hon 9 (by kernel_rfl)) rfl
                   rw [Q_X9_ (hon 9 (by kernel_rfl))] at e14
                   have e81 : a.tmps[81]? = some (.agg #[.int .u64 t147, .int .u64 t148, .int .u64 t149, .int .u64 t150]) := by rw [ha]; exact putSel_on (e := (8, 81, .agg #[.int .u64 t147, .int .u64 t148, .int .u64 t149, .int .u64 t150])) 6 rfl rfl (hon 8 (by kernel_rfl)) rfl
                   replace ha := aM ha
                   have BK115 := aM Q_BK115
                   have BK116 := aM Q_BK116
                   have BK117 := aM Q_BK117
                   have BK118 := aM Q_BK118
                   have HB := aM Q_HB
                   have BK151 := aM (Q_BK151 (hon 9 (by kernel_rfl)) hb_)
                   have GW151 := aM (Q_GW151 (hon 9 (by kernel_rfl)))
                   have GE151 := aM (Q_GE151 (hon 9 (by kernel_rfl)))
                   have NB115_151 := aM (Q_NB115_151 (hon 9 (by kernel_rfl)))
                   have NB151_115 := aM (Q_NB151_115 (hon 9 (by kernel_rfl)))
                   have NB116_151 := aM (Q_NB116_151 (hon 9 (by kernel_rfl)))
                   have NB151_116 := aM (Q_NB151_116 (hon 9 (by kernel_rfl)))
                   have NB117_151 := aM (Q_NB117_151 (hon 9 (by kernel_rfl)))
                   have NB151_117 := aM (Q_NB151_117 (hon 9 (by kernel_rfl)))
                   have NB118_151 := aM (Q_NB118_151 (hon 9 (by kernel_rfl)))
                   have NB151_118 := aM (Q_NB151_118 (hon 9 (by kernel_rfl)))
                   have hs147 : w'.cell? ⟨gb151, 0, none⟩ = some (.int .u64 0) := (blk_cell BK151.out 0).trans rfl
                   have hfs147 := bF BK151.out 0
                   have hns147_0 := NB115_151.out
                   have hns147_1 := NB116_151.out
                   have hns147_2 := NB117_151.out
                   have hns147_3 := NB118_151.out
                   have hms147_0 := NB151_115.out
                   have hms147_1 := NB151_116.out
                   have hms147_2 := NB151_117.out
                   have hms147_3 := NB151_118.out
                   have hs148 : w'.cell? ⟨gb151, 1, none⟩ = some (.int .u64 0) := (blk_cell BK151.out 1).trans rfl
                   have hfs148 := bF BK151.out 1
                   have hns148_0 := NB115_151.out
                   have hns148_1 := NB116_151.out
                   have hns148_2 := NB117_151.out
                   have hns148_3 := NB118_151.out
                   have hms148_0 := NB151_115.out
                   have hms148_1 := NB151_116.out
                   have hms148_2 := NB151_117.out
                   have hms148_3 := NB151_118.out
                   have hs149 : w'.cell? ⟨gb151, 2, none⟩ = some (.int .u64 0) := (blk_cell BK151.out 2).trans rfl
                   have hfs149 := bF BK151.out 2
                   have hns149_0 := NB115_151.out
                   have hns149_1 := NB116_151.out
                   have hns149_2 := NB117_151.out
                   have hns149_3 := NB118_151.out
                   have hms149_0 := NB151_115.out
                   have hms149_1 := NB151_116.out
                   have hms149_2 := NB151_117.out
                   have hms149_3 := NB151_118.out
                   have hs150 : w'.cell? ⟨gb151, 3, none⟩ = some (.int .u64 0) := (blk_cell BK151.out 3).trans rfl
                   have hfs150 := bF BK151.out 3
                   have hns150_0 := NB115_151.out
                   have hns150_1 := NB116_151.out
                   have hns150_2 := NB117_151.out
                   have hns150_3 := NB118_151.out
                   have hms150_0 := NB151_115.out
                   have hms150_1 := NB151_116.out
                   have hms150_2 := NB151_117.out
                   have hms150_3 := NB151_118.out
                   refine skip_ (w1 := ?_) (by rfl) rfl ?_ ?_
                   rotate_left
                   · go_simp
                     rfl
                   refine hK.out _ _ ⟨gb151, m9_, (by rw [ha.out]; exact putSel_none (v := undef) rfl), (by (with_reducible repeat (first | apply bkN | apply bkD | apply bkA)); refine blk_far ?_ NB115_151.out _; (with_reducible repeat (first | apply bkN | apply bkD | apply bkA)); refine blk_far ?_ NB115_151.out _; (with_reducible repeat (first | apply bkN | apply bkD | apply bkA)); refine blk_far ?_ NB115_151.out _; (with_reducible repeat (first | apply bkN | apply bkD | apply bkA)); refine blk_far ?_ NB115_151.out _; (with_reducible repeat (first | apply bkN | apply bkD | apply bkA)); exact BK115.out), (by (with_reducible repeat (first | apply bkN | apply bkD | apply bkA)); refine blk_far ?_ NB116_151.out _; (with_reducible repeat (first | apply bkN | apply bkD | apply bkA)); refine blk_far ?_ NB116_151.out _; (with_reducible repeat (first | apply bkN | apply bkD | apply bkA)); refine blk_far ?_ NB116_151.out _; (with_reducible repeat (first | apply bkN | apply bkD | apply bkA)); refine blk_far ?_ NB116_151.out _; (with_reducible repeat (first | apply bkN | apply bkD | apply bkA)); exact BK116.out), (by (with_reducible repeat (first | apply bkN | apply bkD | apply bkA)); refine blk_far ?_ NB117_151.out _; (with_reducible repeat (first | apply bkN | apply bkD | apply bkA)); refine blk_far ?_ NB117_151.out _; (with_reducible repeat (first | apply bkN | apply bkD | apply bkA)); refine blk_far ?_ NB117_151.out _; (with_reducible repeat (first | apply bkN | apply bkD | apply bkA)); refine blk_far ?_ NB117_151.out _; (with_reducible repeat (first | apply bkN | apply bkD | apply bkA)); exact BK117.out), (by (with_reducible repeat (first | apply bkN | apply bkD | apply bkA)); refine blk_far ?_ NB118_151.out _; (with_reducible repeat (first | apply bkN | apply bkD | apply bkA)); refine blk_far ?_ NB118_151.out _; (with_reducible repeat (first | apply bkN | apply bkD | apply bkA)); refine blk_far ?_ NB118_151.out _; (with_reducible repeat (first | apply bkN | apply bkD | apply bkA)); refine blk_far ?_ NB118_151.out _; (with_reducible repeat (first | apply bkN | apply bkD | apply bkA)); exact BK118.out), (bw_ HB.out), fun _ h1_ => absurd ((up_self b 10).symm.trans h1_) (by decide), fun _ => GW151.out, fun _ => GE151.out, fun _ => NB115_151.out, fun _ => NB151_115.out, fun _ => NB116_151.out, fun _ => NB151_116.out, fun _ => NB117_151.out, fun _ => NB151_117.out, fun _ => NB118_151.out, fun _ => NB151_118.out, fun _ => (by (with_reducible repeat (first | apply bkN | apply bkD | apply bkA)); refine blk_put (cs := #[.int .u64 t147, .int .u64 t148, .int .u64 t149, .int .u64 0]) ?_ 3 _ rfl; (with_reducible repeat (first | apply bkN | apply bkD | apply bkA)); refine blk_put (cs := #[.int .u64 t147, .int .u64 t148, .int .u64 0, .int .u64 0]) ?_ 2 _ rfl; (with_reducible repeat (first | apply bkN | apply bkD | apply bkA)); refine blk_put (cs := #[.int .u64 t147, .int .u64 0, .int .u64 0, .int .u64 0]) ?_ 1 _ rfl; (with_reducible repeat (first | apply bkN | apply bkD | apply bkA)); refine blk_put (cs := #[.int .u64 0, .int .u64 0, .int .u64 0, .int .u64 0]) ?_ 0 _ rfl; (with_reducible repeat (first | apply bkN | apply bkD | apply bkA)); exact BK151.out), Q_X9_⟩
                 exact steps_nil
               rintro b a w150 hall ⟨gb151, m9_, ha, Q_BK115, Q_BK116, Q_BK117, Q_BK118, Q_HB, Q_BK151, Q_GW151, Q_GE151, Q_NB115_151, Q_NB151_115, Q_NB116_151, Q_NB151_116, Q_NB117_151, Q_NB151_117, Q_NB118_151, Q_NB151_118, Q_BK151_e10, Q_X9_⟩
               clear BK115 BK116 BK117 BK118 HB
               have hb0_ := hall 0 (by kernel_rfl)
               have hb2_ := hall 2 (by kernel_rfl)
               have hb3_ := hall 3 (by kernel_rfl)
               have hb4_ := hall 4 (by kernel_rfl)
               have hb6_ := hall 6 (by kernel_rfl)
               have hb7_ := hall 7 (by kernel_rfl)
               have hb8_ := hall 8 (by kernel_rfl)
               have hb9_ := hall 9 (by kernel_rfl)
               have hb10_ := hall 10 (by kernel_rfl)
               subst ha
               obtain rfl := Q_X9_ hb9_
               simp only [putSel, hb0_, hb2_, hb3_, hb4_, hb6_, hb7_, hb8_, hb9_, hb10_, if_true, Act.put, sT, sZ, sS]
               have BK115 := aM Q_BK115
               clear Q_BK115
               have BK116 := aM Q_BK116
               clear Q_BK116
               have BK117 := aM Q_BK117
               clear Q_BK117
               have BK118 := aM Q_BK118
               clear Q_BK118
               have HB := aM Q_HB
               clear Q_HB
               clear Q_BK151
               have GW151 := aM (Q_GW151 hb9_)
               clear Q_GW151
               have GE151 := aM (Q_GE151 hb9_)
               clear Q_GE151
               have NB115_151 := aM (Q_NB115_151 hb9_)
               clear Q_NB115_151
               have NB151_115 := aM (Q_NB151_115 hb9_)
               clear Q_NB151_115
               have NB116_151 := aM (Q_NB116_151 hb9_)
               clear Q_NB116_151
               have NB151_116 := aM (Q_NB151_116 hb9_)
               clear Q_NB151_116
               have NB117_151 := aM (Q_NB117_151 hb9_)
               clear Q_NB117_151
               have NB151_117 := aM (Q_NB151_117 hb9_)
               clear Q_NB151_117
               have NB118_151 := aM (Q_NB118_151 hb9_)
               clear Q_NB118_151
               have NB151_118 := aM (Q_NB151_118 hb9_)
               clear Q_NB151_118
               have BK151 := aM (Q_BK151_e10 hb10_)
               clear Q_BK151_e10
               clear hall hb0_ hb2_ hb3_ hb4_ hb6_ hb7_ hb8_ hb9_ hb10_
               have hnb151 := NB151_115.out
               have hnc151 := NB115_151.out
               have hnb152 := NB151_116.out
               have hnc152 := NB116_151.out
               have hnb153 := NB151_117.out
               have hnc153 := NB117_151.out
               have hnb154 := NB151_118.out
               have hnc154 := NB118_151.out
               have hcz155_0 : w150.cell? ⟨gb151, 0, none⟩ = some (.int .u64 t147) := (blk_cell BK151.out 0).trans rfl
               have hcz155_1 : w150.cell? ⟨gb151, 1, none⟩ = some (.int .u64 t148) := (blk_cell BK151.out 1).trans rfl
               have hcz155_2 : w150.cell? ⟨gb151, 2, none⟩ = some (.int .u64 t149) := (blk_cell BK151.out 2).trans rfl
               have hcz155_3 : w150.cell? ⟨gb151, 3, none⟩ = some (.int .u64 t150) := (blk_cell BK151.out 3).trans rfl
               have hfz155_0 := bF BK151.out 0
               have hfz155_1 := bF BK151.out 1
               have hfz155_2 := bF BK151.out 2
               have hfz155_3 := bF BK151.out 3
               have hnb156 := NB118_115.out
               have hnc156 := NB115_118.out
               have hnb157 := NB118_116.out
               have hnc157 := NB116_118.out
               have hnb158 := NB118_117.out
               have hnc158 := NB117_118.out
               have hcz159_0 : w150.cell? ⟨gb118, 0, none⟩ = some (.int .u64 x119000_1) := (blk_cell BK118.out 0).trans rfl
               have hcz159_1 : w150.cell? ⟨gb118, 1, none⟩ = some (.int .u64 x119001_1) := (blk_cell BK118.out 1).trans rfl
               have hcz159_2 : w150.cell? ⟨gb118, 2, none⟩ = some (.int .u64 x119002_1) := (blk_cell BK118.out 2).trans rfl
               have hcz159_3 : w150.cell? ⟨gb118, 3, none⟩ = some (.int .u64 x119003_1) := (blk_cell BK118.out 3).trans rfl
               have hfz159_0 := bF BK118.out 0
               have hfz159_1 := bF BK118.out 1
               have hfz159_2 := bF BK118.out 2
               have hfz159_3 := bF BK118.out 3
               have hnb160 := NB117_115.out
               have hnc160 := NB115_117.out
               have hnb161 := NB117_116.out
               have hnc161 := NB116_117.out
               have hcz162_0 : w150.cell? ⟨gb117, 0, none⟩ = some (.int .u64 0) := (blk_cell BK117.out 0).trans rfl
               have hcz162_1 : w150.cell? ⟨gb117, 1, none⟩ = some (.int .u64 0) := (blk_cell BK117.out 1).trans rfl
               have hcz162_2 : w150.cell? ⟨gb117, 2, none⟩ = some (.int .u64 0) := (blk_cell BK117.out 2).trans rfl
               have hcz162_3 : w150.cell? ⟨gb117, 3, none⟩ = some (.int .u64 0) := (blk_cell BK117.out 3).trans rfl
               have hfz162_0 := bF BK117.out 0
               have hfz162_1 := bF BK117.out 1
               have hfz162_2 := bF BK117.out 2
               have hfz162_3 := bF BK117.out 3
               try go_wp2
               repeat (go_step3; try go_wp2_with (fail))
               refine bodyPost_ret (results_cell_row rfl _ _ gb117 71 #[.int .u64 x119000_1, .int .u64 x119001_1, .int .u64 x119002_1, .int .u64 x119003_1] (0, 0) _ rfl (by (with_reducible repeat (first | apply bkN | apply bkD | apply bkA)); refine blk_put (cs := #[.int .u64 x119000_1, .int .u64 x119001_1, .int .u64 x119002_1, .int .u64 0]) ?_ 3 _ rfl; (with_reducible repeat (first | apply bkN | apply bkD | apply bkA)); refine blk_put (cs := #[.int .u64 x119000_1, .int .u64 x119001_1, .int .u64 0, .int .u64 0]) ?_ 2 _ rfl; (with_reducible repeat (first | apply bkN | apply bkD | apply bkA)); refine blk_put (cs := #[.int .u64 x119000_1, .int .u64 0, .int .u64 0, .int .u64 0]) ?_ 1 _ rfl; (with_reducible repeat (first | apply bkN | apply bkD | apply bkA)); refine blk_put (cs := #[.int .u64 0, .int .u64 0, .int .u64 0, .int .u64 0]) ?_ 0 _ rfl; (with_reducible repeat (first | apply bkN | apply bkD | apply bkA)); exact BK117.out) Try.underlying71 rfl (by kernel_rfl)) rfl ?_
               exact ⟨by first | rfl | (simp [errW_none, errW_some] <;> rfl) | (simp [*, errW_none, errW_some] <;> rfl), by repeat (first | (with_reducible first | exact HB.out | apply blA | apply blN | apply blD | refine bS ?_ GE115.out | refine bS ?_ GE116.out | refine bS ?_ GE117.out | refine bS ?_ GE118.out | refine bS ?_ GE151.out) | exact HB.out)⟩
             · rw [if_neg c141] at H
               have c141b0 : (t147 == x119000_1 && (t148 == x119001_1 && (t149 == x119002_1 && (t150 == x119003_1)))) = false := by simpa using c141
               (try (have c141b1 : decide (t147 = x119000_1 && (t148 == x119001_1 && (t149 == x119002_1 && (t150 == x119003_1)))) = false := by simpa using c141))
               (try (have c141b2 : (t147 == x119000_1 && (t148 == x119001_1 && (t149 == x119002_1 && (t150 == x119003_1)))) = false := by simpa using c141))
               (try (have c141b3 : ¬ (t147 = x119000_1 && (t148 == x119001_1 && (t149 == x119002_1 && (t150 == x119003_1)))) := by simpa using c141))
               clear c141
               have H' := aM H
               clear H
               try go_wp2
               repeat (go_step3; try go_wp2_with (fail))
               have n0_ := aM (blk_drew BK115.out)
               have n1_ := aM (blk_drew BK116.out)
               have n2_ := aM (blk_drew BK117.out)
               have n3_ := aM (blk_drew BK118.out)
               have n4_ := aM (below_drew1 HB.out)
               clear BK115
               clear BK116
               clear BK117
               clear BK118
               clear HB
               have BK115 := n0_
               have BK116 := n1_
               have BK117 := n2_
               have BK118 := n3_
               have HB := n4_
               clear n0_ n1_ n2_ n3_ n4_
               have p142 : 0 ≤ (0 : Int) := (by omega)
               have q142 : 0 < (l0_2.length : Int) := of_decide_eq_true (by first | (with_reducible assumption) | assumption)
               obtain ⟨ad142, A142_1, c142_1, A142_2, c142_2, e142, hx142_0, hx142_1, hx142_2, hl142_1, hi142_1, hl142_2, hi142_2⟩ := at_T25 HR0_2.out 0 p142 q142
               have hw142_2 := hx142_2
               (try rw [show ((0 : Int)).toNat = 0 from rfl] at hw142_2)
               (try rw [show 0 * 3 = 0 from rfl] at hw142_2)
               (try rw [Addr.add_zero'] at hw142_2)
               have hw142_1 := hx142_1
               (try rw [show ((0 : Int)).toNat = 0 from rfl] at hw142_1)
               (try rw [show 0 * 3 = 0 from rfl] at hw142_1)
               (try rw [Addr.add_zero'] at hw142_1)
               have hw142_0 := hx142_0
               (try rw [show ((0 : Int)).toNat = 0 from rfl] at hw142_0)
               (try rw [show 0 * 3 = 0 from rfl] at hw142_0)
               (try rw [Addr.add_zero'] at hw142_0)
               cases e142
               have qi142 : (0 < l0_2.length) = True := eq_true (by omega)
               (try rw [show ((0 : Int)).toNat = 0 from rfl] at hx142_0)
               (try rw [show 0 * 3 = 0 from rfl] at hx142_0)
               (try rw [Addr.add_zero'] at hx142_0)
               (try rw [show ((0 : Int)).toNat = 0 from rfl] at hx142_1)
               (try rw [show 0 * 3 = 0 from rfl] at hx142_1)
               (try rw [Addr.add_zero'] at hx142_1)
               (try rw [show ((0 : Int)).toNat = 0 from rfl] at hx142_2)
               (try rw [show 0 * 3 = 0 from rfl] at hx142_2)
               (try rw [Addr.add_zero'] at hx142_2)
               replace hx142_0 := (HB.out.cell (World.block_lt_of_cell? w _ hx142_0)).trans hx142_0
               replace hx142_1 := (HB.out.cell (World.block_lt_of_cell? w _ hx142_1)).trans hx142_1
               replace hx142_2 := (HB.out.cell (World.block_lt_of_cell? w _ hx142_2)).trans hx142_2
               have HR142_1 := aM hi142_1
               have HC142_1 := aM hl142_1
               clear hi142_1 hl142_1
               have HR142_2 := aM hi142_2
               have HC142_2 := aM hl142_2
               clear hi142_2 hl142_2
               replace p142 := eq_true p142
               replace q142 := eq_true q142
               refine start_ (n := 11) (S := fun w' => True) (ds := []) (tf 0 11) (by kernel_rfl) rfl rfl trivial (fun hHeld => ?_); refine with_tabW pat_ends.tab25 pat_ends.bits25 (fun HT_ HW_ => ?_)
               generalize wr.drew = w163 at BK115 BK116 BK117 BK118 HB HR142_1 HR142_2 hx142_0 hx142_1 hx142_2 hHeld ⊢
               refine pure_ (i := 1) (N := some 74) (v := ?_) (a' := ?_) #[false, true, false, false, false, false, false, false, false, false, false] rfl rfl (any_of HT_.out (by kernel_rfl)) (fun _ _ _ h => h) (Or.inl ⟨by rfl, ?_⟩) ?_ ?_
               rotate_left
               · intro w'
                 go_simp
                 with_reducible rfl
               rotate_left
               · simp only [Act.put, sT, sZ, sS, i64_w, i32_w]
                 rfl
               refine pure_ (i := 5) (N := some 78) (v := ?_) (a' := ?_) #[false, true, false, false, false, true, false, false, false, false, false] rfl rfl (any_of HT_.out (by kernel_rfl)) (fun _ _ _ h => h) (Or.inl ⟨by rfl, ?_⟩) ?_ ?_
               rotate_left
               · intro w'
                 go_simp
                 with_reducible rfl
               rotate_left
               · simp only [Act.put, sT, sZ, sS, i64_w, i32_w]
                 rfl
               refine inv_at [0, 2, 3, 4, 6, 7, 8, 9, 10] (fun a0_ b a w' => ∃ (gb151 : Nat) (m9_ : Value), a = putSel a0_ b [(0, 73, .agg #[.int .u64 x119000_1, .int .u64 x119001_1, .int .u64 x119002_1, .int .u64 x119003_1]), (2, 75, .slice (some ad142) l0_2.length c0_2), (3, 76, .pointer (some ad142)), (4, 77, .agg #[.int .i64 ((rd_T25 l0_2 0).f0), .slice A142_1 ((rd_T25 l0_2 0).f1).length c142_1, .slice A142_2 ((rd_T25 l0_2 0).f2).length c142_2]), (6, 79, .agg #[.int .u64 x119000_1, .int .u64 x119001_1, .int .u64 x119002_1, .int .u64 x119003_1]), (7, 80, .agg #[.int .u64 t143, .int .u64 t144, .int .u64 t145, .int .u64 t146]), (8, 81, .agg #[.int .u64 t147, .int .u64 t148, .int .u64 t149, .int .u64 t150]), (9, 14, m9_)] ∧ (w'.heap[gb115]? = some (.cells #[.int .i64 a0_0, .slice A0_1 l0_1.length c0_1, .slice (some ad142) l0_2.length c0_2] 25 (0, 0))) ∧ (w'.heap[gb116]? = some (.cells #[.int .u64 a2_0, .int .u64 a2_1, .int .u64 a2_2, .int .u64 a2_3] 71 (0, 0))) ∧ (w'.heap[gb117]? = some (.cells #[.int .u64 0, .int .u64 0, .int .u64 0, .int .u64 0] 71 (0, 0))) ∧ (w'.heap[gb118]? = some (.cells #[.int .u64 x119000_1, .int .u64 x119001_1, .int .u64 x119002_1, .int .u64 x119003_1] 71 (0, 0))) ∧ (Below w.heap.size w w') ∧ (b 9 = true → b 10 = false → w'.heap[gb151]? = some (.cells #[.int .u64 0, .int .u64 0, .int .u64 0, .int .u64 0] 71 (0, 0))) ∧ (b 9 = true → w.heap.size ≤ gb151) ∧ (b 9 = true → w.heap.size ≤ gb151) ∧ (b 9 = true → gb115 ≠ gb151) ∧ (b 9 = true → gb151 ≠ gb115) ∧ (b 9 = true → gb116 ≠ gb151) ∧ (b 9 = true → gb151 ≠ gb116) ∧ (b 9 = true → gb117 ≠ gb151) ∧ (b 9 = true → gb151 ≠ gb117) ∧ (b 9 = true → gb118 ≠ gb151) ∧ (b 9 = true → gb151 ≠ gb118) ∧ (b 10 = true → w'.heap[gb151]? = some (.cells #[.int .u64 t147, .int .u64 t148, .int .u64 t149, .int .u64 t150] 71 (0, 0))) ∧ (b 9 = true → (m9_ : Value) = .pointer (some ⟨gb151, 0, none⟩))) HT_.out HW_.out (by kernel_rfl) (by kernel_rfl) ?_ ?_ ?_
               · exact ⟨0, .bool false, by simp only [putSel, Bool.false_eq_true, if_false], BK115.out, BK116.out, BK117.out, BK118.out, HB.out, fun h_ => absurd h_ (by decide), fun h_ => absurd h_ (by decide), fun h_ => absurd h_ (by decide), fun h_ => absurd h_ (by decide), fun h_ => absurd h_ (by decide), fun h_ => absurd h_ (by decide), fun h_ => absurd h_ (by decide), fun h_ => absurd h_ (by decide), fun h_ => absurd h_ (by decide), fun h_ => absurd h_ (by decide), fun h_ => absurd h_ (by decide), fun h_ => absurd h_ (by decide), fun h_ => absurd h_ (by decide)⟩
               · skip
                 clear BK115 BK116 BK117 BK118 HB
                 refine steps_cons ?_ ?_
                 · rintro b a w' ⟨gb151, m9_, ha, Q_BK115, Q_BK116, Q_BK117, Q_BK118, Q_HB, Q_BK151, Q_GW151, Q_GE151, Q_NB115_151, Q_NB151_115, Q_NB116_151, Q_NB151_116, Q_NB117_151, Q_NB151_117, Q_NB118_151, Q_NB151_118, Q_BK151_e10, Q_X9_⟩ hb_ hon hoff
                   refine ⟨_, rfl, fun K hK => ?_⟩
                   have e7 : a.tmps[7]? = some (.pointer (some ⟨gb118, 0, none⟩)) := by rw [ha]; exact (putSel_off rfl).trans rfl
                   replace ha := aM ha
                   have BK115 := aM Q_BK115
                   have BK116 := aM Q_BK116
                   have BK117 := aM Q_BK117
                   have BK118 := aM Q_BK118
                   have HB := aM Q_HB
                   have hc0_ : w'.cell? ⟨gb118, 0, none⟩ = some (.int .u64 x119000_1) := (blk_cell BK118.out 0).trans rfl
                   have hc1_ : w'.cell? ⟨gb118, 1, none⟩ = some (.int .u64 x119001_1) := (blk_cell BK118.out 1).trans rfl
                   have hc2_ : w'.cell? ⟨gb118, 2, none⟩ = some (.int .u64 x119002_1) := (blk_cell BK118.out 2).trans rfl
                   have hc3_ : w'.cell? ⟨gb118, 3, none⟩ = some (.int .u64 x119003_1) := (blk_cell BK118.out 3).trans rfl
                   refine value_ (w1 := w') (v := .agg #[.int .u64 x119000_1, .int .u64 x119001_1, .int .u64 x119002_1, .int .u64 x119003_1]) (by rfl) rfl ?_ ?_
                   · go_simp
                     (try simp only [i64_w])
                     try rfl
                   refine hK.out _ _ ⟨gb151, m9_, (by rw [ha.out]; exact putSel_upk 0 hb_ rfl rfl rfl), Q_BK115, Q_BK116, Q_BK117, Q_BK118, Q_HB, Q_BK151, Q_GW151, Q_GE151, Q_NB115_151, Q_NB151_115, Q_NB116_151, Q_NB151_116, Q_NB117_151, Q_NB151_117, Q_NB118_151, Q_NB151_118, fun h0_ => absurd ((hoff 10 (by kernel_rfl)).symm.trans h0_) (by decide), Q_X9_⟩
                 refine steps_cons ?_ ?_
                 · rintro b a w' ⟨gb151, m9_, ha, Q_BK115, Q_BK116, Q_BK117, Q_BK118, Q_HB, Q_BK151, Q_GW151, Q_GE151, Q_NB115_151, Q_NB151_115, Q_NB116_151, Q_NB151_116, Q_NB117_151, Q_NB151_117, Q_NB118_151, Q_NB151_118, Q_BK151_e10, Q_X9_⟩ hb_ hon hoff
                   refine ⟨_, rfl, fun K hK => ?_⟩
                   have e74 : a.tmps[74]? = some (.pointer (some ⟨gb115, 2, none⟩)) := by rw [ha]; exact (putSel_off rfl).trans rfl
                   replace ha := aM ha
                   have BK115 := aM Q_BK115
                   have BK116 := aM Q_BK116
                   have BK117 := aM Q_BK117
                   have BK118 := aM Q_BK118
                   have HB := aM Q_HB
                   have hc0_ : w'.cell? ⟨gb115, 0, none⟩ = some (.int .i64 a0_0) := (blk_cell BK115.out 0).trans rfl
                   have hc1_ : w'.cell? ⟨gb115, 1, none⟩ = some (.slice A0_1 l0_1.length c0_1) := (blk_cell BK115.out 1).trans rfl
                   have hc2_ : w'.cell? ⟨gb115, 2, none⟩ = some (.slice (some ad142) l0_2.length c0_2) := (blk_cell BK115.out 2).trans rfl
                   refine value_ (w1 := w') (v := .slice (some ad142) l0_2.length c0_2) (by rfl) rfl ?_ ?_
                   · go_simp
                     (try simp only [i64_w])
                     try rfl
                   refine hK.out _ _ ⟨gb151, m9_, (by rw [ha.out]; exact putSel_upk 1 hb_ rfl rfl rfl), Q_BK115, Q_BK116, Q_BK117, Q_BK118, Q_HB, Q_BK151, Q_GW151, Q_GE151, Q_NB115_151, Q_NB151_115, Q_NB116_151, Q_NB151_116, Q_NB117_151, Q_NB151_117, Q_NB118_151, Q_NB151_118, fun h0_ => absurd ((hoff 10 (by kernel_rfl)).symm.trans h0_) (by decide), Q_X9_⟩
                 refine steps_cons ?_ ?_
                 · rintro b a w' ⟨gb151, m9_, ha, Q_BK115, Q_BK116, Q_BK117, Q_BK118, Q_HB, Q_BK151, Q_GW151, Q_GE151, Q_NB115_151, Q_NB151_115, Q_NB116_151, Q_NB151_116, Q_NB117_151, Q_NB151_117, Q_NB118_151, Q_NB151_118, Q_BK151_e10, Q_X9_⟩ hb_ hon hoff
                   refine ⟨_, rfl, fun K hK => ?_⟩
                   have e75 : a.tmps[75]? = some (.slice (some ad142) l0_2.length c0_2) := by rw [ha]; exact putSel_on (e := (2, 75, .slice (some ad142) l0_2.length c0_2)) 1 rfl rfl (hon 2 (by kernel_rfl)) rfl
                   replace ha := aM ha
                   have BK115 := aM Q_BK115
                   have BK116 := aM Q_BK116
                   have BK117 := aM Q_BK117
                   have BK118 := aM Q_BK118
                   have HB := aM Q_HB
                   have hs0_ : w'.cell? ad142 = some (.int .i64 ((rd_T25 l0_2 0).f0)) := ((HB.out.cell (World.block_lt_of_cell? w _ hw142_0)).trans hw142_0)
                   have hs1_ : w'.cell? ⟨ad142.block, ad142.off + 1, none⟩ = some (.slice A142_1 ((rd_T25 l0_2 0).f1).length c142_1) := ((HB.out.cell (World.block_lt_of_cell? w _ hw142_1)).trans hw142_1)
                   have hs2_ : w'.cell? ⟨ad142.block, ad142.off + 2, none⟩ = some (.slice A142_2 ((rd_T25 l0_2 0).f2).length c142_2) := ((HB.out.cell (World.block_lt_of_cell? w _ hw142_2)).trans hw142_2)
                   refine value_ (w1 := w') (v := .pointer (some ad142)) (by rfl) rfl ?_ ?_
                   · go_simp
                     (try simp only [i64_w])
                     try rfl
                   refine hK.out _ _ ⟨gb151, m9_, (by rw [ha.out]; exact putSel_upk 2 hb_ rfl rfl rfl), Q_BK115, Q_BK116, Q_BK117, Q_BK118, Q_HB, Q_BK151, Q_GW151, Q_GE151, Q_NB115_151, Q_NB151_115, Q_NB116_151, Q_NB151_116, Q_NB117_151, Q_NB151_117, Q_NB118_151, Q_NB151_118, fun h0_ => absurd ((hoff 10 (by kernel_rfl)).symm.trans h0_) (by decide), Q_X9_⟩
                 refine steps_cons ?_ ?_
                 · rintro b a w' ⟨gb151, m9_, ha, Q_BK115, Q_BK116, Q_BK117, Q_BK118, Q_HB, Q_BK151, Q_GW151, Q_GE151, Q_NB115_151, Q_NB151_115, Q_NB116_151, Q_NB151_116, Q_NB117_151, Q_NB151_117, Q_NB118_151, Q_NB151_118, Q_BK151_e10, Q_X9_⟩ hb_ hon hoff
                   refine ⟨_, rfl, fun K hK => ?_⟩
                   have e76 : a.tmps[76]? = some (.pointer (some ad142)) := by rw [ha]; exact putSel_on (e := (3, 76, .pointer (some ad142))) 2 rfl rfl (hon 3 (by kernel_rfl)) rfl
                   replace ha := aM ha
                   have BK115 := aM Q_BK115
                   have BK116 := aM Q_BK116
                   have BK117 := aM Q_BK117
                   have BK118 := aM Q_BK118
                   have HB := aM Q_HB
                   have hs0_ : w'.cell? ad142 = some (.int .i64 ((rd_T25 l0_2 0).f0)) := ((HB.out.cell (World.block_lt_of_cell? w _ hw142_0)).trans hw142_0)
                   have hs1_ : w'.cell? ⟨ad142.block, ad142.off + 1, none⟩ = some (.slice A142_1 ((rd_T25 l0_2 0).f1).length c142_1) := ((HB.out.cell (World.block_lt_of_cell? w _ hw142_1)).trans hw142_1)
                   have hs2_ : w'.cell? ⟨ad142.block, ad142.off + 2, none⟩ = some (.slice A142_2 ((rd_T25 l0_2 0).f2).length c142_2) := ((HB.out.cell (World.block_lt_of_cell? w _ hw142_2)).trans hw142_2)
                   refine value_ (w1 := w') (v := .agg #[.int .i64 ((rd_T25 l0_2 0).f0), .slice A142_1 ((rd_T25 l0_2 0).f1).length c142_1, .slice A142_2 ((rd_T25 l0_2 0).f2).length c142_2]) (by rfl) rfl ?_ ?_
                   · go_simp
                     (try simp only [i64_w])
                     try rfl
                   refine hK.out _ _ ⟨gb151, m9_, (by rw [ha.out]; exact putSel_upk 3 hb_ rfl rfl rfl), Q_BK115, Q_BK116, Q_BK117, Q_BK118, Q_HB, Q_BK151, Q_GW151, Q_GE151, Q_NB115_151, Q_NB151_115, Q_NB116_151, Q_NB151_116, Q_NB117_151, Q_NB151_117, Q_NB118_151, Q_NB151_118, fun h0_ => absurd ((hoff 10 (by kernel_rfl)).symm.trans h0_) (by decide), Q_X9_⟩
                 refine steps_cons ?_ ?_
                 · rintro b a w' ⟨gb151, m9_, ha, Q_BK115, Q_BK116, Q_BK117, Q_BK118, Q_HB, Q_BK151, Q_GW151, Q_GE151, Q_NB115_151, Q_NB151_115, Q_NB116_151, Q_NB151_116, Q_NB117_151, Q_NB151_117, Q_NB118_151, Q_NB151_118, Q_BK151_e10, Q_X9_⟩ hb_ hon hoff
                   refine ⟨_, rfl, fun K hK => ?_⟩
                   have e7 : a.tmps[7]? = some (.pointer (some ⟨gb118, 0, none⟩)) := by rw [ha]; exact (putSel_off rfl).trans rfl
                   replace ha := aM ha
                   have BK115 := aM Q_BK115
                   have BK116 := aM Q_BK116
                   have BK117 := aM Q_BK117
                   have BK118 := aM Q_BK118
                   have HB := aM Q_HB
                   have hc0_ : w'.cell? ⟨gb118, 0, none⟩ = some (.int .u64 x119000_1) := (blk_cell BK118.out 0).trans rfl
                   have hc1_ : w'.cell? ⟨gb118, 1, none⟩ = some (.int .u64 x119001_1) := (blk_cell BK118.out 1).trans rfl
                   have hc2_ : w'.cell? ⟨gb118, 2, none⟩ = some (.int .u64 x119002_1) := (blk_cell BK118.out 2).trans rfl
                   have hc3_ : w'.cell? ⟨gb118, 3, none⟩ = some (.int .u64 x119003_1) := (blk_cell BK118.out 3).trans rfl
                   refine value_ (w1 := w') (v := .agg #[.int .u64 x119000_1, .int .u64 x119001_1, .int .u64 x119002_1, .int .u64 x119003_1]) (by rfl) rfl ?_ ?_
                   · go_simp
                     (try simp only [i64_w])
                     try rfl
                   refine hK.out _ _ ⟨gb151, m9_, (by rw [ha.out]; exact putSel_upk 4 hb_ rfl rfl rfl), Q_BK115, Q_BK116, Q_BK117, Q_BK118, Q_HB, Q_BK151, Q_GW151, Q_GE151, Q_NB115_151, Q_NB151_115, Q_NB116_151, Q_NB151_116, Q_NB117_151, Q_NB151_117, Q_NB118_151, Q_NB151_118, fun h0_ => absurd ((hoff 10 (by kernel_rfl)).symm.trans h0_) (by decide), Q_X9_⟩
                 refine steps_cons ?_ ?_
                 · rintro b a w' ⟨gb151, m9_, ha, Q_BK115, Q_BK116, Q_BK117, Q_BK118, Q_HB, Q_BK151, Q_GW151, Q_GE151, Q_NB115_151, Q_NB151_115, Q_NB116_151, Q_NB151_116, Q_NB117_151, Q_NB151_117, Q_NB118_151, Q_NB151_118, Q_BK151_e10, Q_X9_⟩ hb_ hon hoff
                   refine ⟨_, rfl, fun K hK => ?_⟩
                   have e77 : a.tmps[77]? = some (.agg #[.int .i64 ((rd_T25 l0_2 0).f0), .slice A142_1 ((rd_T25 l0_2 0).f1).length c142_1, .slice A142_2 ((rd_T25 l0_2 0).f2).length c142_2]) := by rw [ha]; exact putSel_on (e := (4, 77, .agg #[.int .i64 ((rd_T25 l0_2 0).f0), .slice A142_1 ((rd_T25 l0_2 0).f1).length c142_1, .slice A142_2 ((rd_T25 l0_2 0).f2).length c142_2])) 3 rfl rfl (hon 4 (by kernel_rfl)) rfl
                   have e78 : a.tmps[78]? = some (.slice A1 l1.length c1) := by rw [ha]; exact (putSel_off rfl).trans rfl
                   have e79 : a.tmps[79]? = some (.agg #[.int .u64 x119000_1, .int .u64 x119001_1, .int .u64 x119002_1, .int .u64 x119003_1]) := by rw [ha]; exact putSel_on (e := (6, 79, .agg #[.int .u64 x119000_1, .int .u64 x119001_1, .int .u64 x119002_1, .int .u64 x119003_1])) 4 rfl rfl (hon 6 (by kernel_rfl)) rfl
                   replace ha := aM ha
                   have BK115 := aM Q_BK115
                   have BK116 := aM Q_BK116
                   have BK117 := aM Q_BK117
                   have BK118 := aM Q_BK118
                   have HB := aM Q_HB
                   refine goes_ Try.func46 (by kernel_rfl) rfl #[.agg #[.int .i64 ((rd_T25 l0_2 0).f0), .slice A142_1 ((rd_T25 l0_2 0).f1).length c142_1, .slice A142_2 ((rd_T25 l0_2 0).f2).length c142_2], .slice A1 l1.length c1, .agg #[.int .u64 x119000_1, .int .u64 x119001_1, .int .u64 x119002_1, .int .u64 x119003_1]] (by rfl) rfl rfl (by first | (simp only [List.map_toArray, List.map_cons, List.map_nil, Act.eval, Array.getD_eq_getD_getElem?, Option.getD_some, e77, e78, e79]; done) | (simp only [List.map_toArray, List.map_cons, List.map_nil, Act.eval, Array.getD_eq_getD_getElem?, Option.getD_some, e77, e78, e79]; rfl)) ?_
                   with_reducible refine (ih k1 (by have := HK1.out; omega) ((rd_T25 l0_2 0).f0) _ _ ((rd_T25 l0_2 0).f1) _ _ ((rd_T25 l0_2 0).f2) _ _ l1 x119000_1 x119001_1 x119002_1 x119003_1 t143 t144 t145 t146 _ ?side1 ?side2 ?side3 ?side4 ?side5 ?side6 A139.out).mono ?_
                   (case side1 => repeat (first | exact (Kd.C_below HR142_1.out HB.out) | (with_reducible refine Kd.C_alloc ?_ _) | (with_reducible refine Kd.C_drewN ?_ _) | (with_reducible refine Kd.C_drew ?_)))
                   (case side2 => exact HC142_1.out)
                   (case side3 => repeat (first | exact (Kd.C_below HR142_2.out HB.out) | (with_reducible refine Kd.C_alloc ?_ _) | (with_reducible refine Kd.C_drewN ?_ _) | (with_reducible refine Kd.C_drew ?_)))
                   (case side4 => exact HC142_2.out)
                   (case side5 => repeat (first | exact (Kd.C_below HR1.out HB.out) | (with_reducible refine Kd.C_alloc ?_ _) | (with_reducible refine Kd.C_drewN ?_ _) | (with_reducible refine Kd.C_drew ?_)))
                   (case side6 => exact HC1.out)
                   rintro e w164 ⟨rfl, hb⟩
                   refine ⟨_, rfl, ?_⟩
                   have n0_ := aM (blk_below (g := gb115) (o := .cells #[.int .i64 a0_0, .slice A0_1 l0_1.length c0_1, .slice (some ad142) l0_2.length c0_2] 25 (0, 0)) (up_ BK115.out) hb)
                   have n1_ := aM (blk_below (g := gb116) (o := .cells #[.int .u64 a2_0, .int .u64 a2_1, .int .u64 a2_2, .int .u64 a2_3] 71 (0, 0)) (up_ BK116.out) hb)
                   have n2_ := aM (blk_below (g := gb117) (o := .cells #[.int .u64 0, .int .u64 0, .int .u64 0, .int .u64 0] 71 (0, 0)) (up_ BK117.out) hb)
                   have n3_ := aM (blk_below (g := gb118) (o := .cells #[.int .u64 x119000_1, .int .u64 x119001_1, .int .u64 x119002_1, .int .u64 x119003_1] 71 (0, 0)) (up_ BK118.out) hb)
                   have n4_ := aM (below_step (bw_ HB.out) hb)
                   have z_BK151 := fun (h0_ : b 9 = true) (h1_ : b 10 = false) => (show w164.heap[gb151]? = some (.cells #[.int .u64 0, .int .u64 0, .int .u64 0, .int .u64 0] 71 (0, 0)) from by first | exact (blk_below (g := gb151) (o := .cells #[.int .u64 0, .int .u64 0, .int .u64 0, .int .u64 0] 71 (0, 0)) (up_ (Q_BK151 h0_ h1_)) hb))
                   clear BK115
                   clear BK116
                   clear BK117
                   clear BK118
                   clear HB
                   have BK115 := n0_
                   have BK116 := n1_
                   have BK117 := n2_
                   have BK118 := n3_
                   have HB := n4_
                   clear n0_ n1_ n2_ n3_ n4_
                   (try clear hb)
                   (try clear hb2)
                   (try clear hk)
                   (try clear hi)
                   refine hK.out _ _ ⟨gb151, m9_, (by rw [ha.out]; exact putSel_upk 5 hb_ rfl rfl rfl), (up_ BK115.out), (up_ BK116.out), (up_ BK117.out), (up_ BK118.out), (bw_ HB.out), z_BK151, Q_GW151, Q_GE151, Q_NB115_151, Q_NB151_115, Q_NB116_151, Q_NB151_116, Q_NB117_151, Q_NB151_117, Q_NB118_151, Q_NB151_118, fun h0_ => absurd ((hoff 10 (by kernel_rfl)).symm.trans h0_) (by decide), Q_X9_⟩
                 refine steps_cons ?_ ?_
                 · rintro b a w' ⟨gb151, m9_, ha, Q_BK115, Q_BK116, Q_BK117, Q_BK118, Q_HB, Q_BK151, Q_GW151, Q_GE151, Q_NB115_151, Q_NB151_115, Q_NB116_151, Q_NB151_116, Q_NB117_151, Q_NB151_117, Q_NB118_151, Q_NB151_118, Q_BK151_e10, Q_X9_⟩ hb_ hon hoff
                   refine ⟨_, rfl, fun K hK => ?_⟩
                   have e73 : a.tmps[73]? = some (.agg #[.int .u64 x119000_1, .int .u64 x119001_1, .int .u64 x119002_1, .int .u64 x119003_1]) := by rw [ha]; exact putSel_on (e := (0, 73, .agg #[.int .u64 x119000_1, .int .u64 x119001_1, .int .u64 x119002_1, .int .u64 x119003_1])) 0 rfl rfl (hon 0 (by kernel_rfl)) rfl
                   have e80 : a.tmps[80]? = some (.agg #[.int .u64 t143, .int .u64 t144, .int .u64 t145, .int .u64 t146]) := by rw [ha]; exact putSel_on (e := (7, 80, .agg #[.int .u64 t143, .int .u64 t144, .int .u64 t145, .int .u64 t146])) 5 rfl rfl (hon 7 (by kernel_rfl)) rfl
                   replace ha := aM ha
                   have BK115 := aM Q_BK115
                   have BK116 := aM Q_BK116
                   have BK117 := aM Q_BK117
                   have BK118 := aM Q_BK118
                   have HB := aM Q_HB
                   refine goes_ Try.func82 (by kernel_rfl) rfl #[.agg #[.int .u64 x119000_1, .int .u64 x119001_1, .int .u64 x119002_1, .int .u64 x119003_1], .agg #[.int .u64 t143, .int .u64 t144, .int .u64 t145, .int .u64 t146]] (by rfl) rfl rfl (by first | (simp only [List.map_toArray, List.map_cons, List.map_nil, Act.eval, Array.getD_eq_getD_getElem?, Option.getD_some, e73, e80]; done) | (simp only [List.map_toArray, List.map_cons, List.map_nil, Act.eval, Array.getD_eq_getD_getElem?, Option.getD_some, e73, e80]; rfl)) ?_
                   with_reducible refine (pat_places_with.calls x119000_1 x119001_1 x119002_1 x119003_1 t143 t144 t145 t146 t147 t148 t149 t150 _ A140.out).mono ?_
                   rintro e w166 ⟨rfl, hb⟩
                   refine ⟨_, rfl, ?_⟩
                   have n0_ := aM (blk_below (g := gb115) (o := .cells #[.int .i64 a0_0, .slice A0_1 l0_1.length c0_1, .slice (some ad142) l0_2.length c0_2] 25 (0, 0)) (up_ BK115.out) hb)
                   have n1_ := aM (blk_below (g := gb116) (o := .cells #[.int .u64 a2_0, .int .u64 a2_1, .int .u64 a2_2, .int .u64 a2_3] 71 (0, 0)) (up_ BK116.out) hb)
                   have n2_ := aM (blk_below (g := gb117) (o := .cells #[.int .u64 0, .int .u64 0, .int .u64 0, .int .u64 0] 71 (0, 0)) (up_ BK117.out) hb)
                   have n3_ := aM (blk_below (g := gb118) (o := .cells #[.int .u64 x119000_1, .int .u64 x119001_1, .int .u64 x119002_1, .int .u64 x119003_1] 71 (0, 0)) (up_ BK118.out) hb)
                   have n4_ := aM (below_step (bw_ HB.out) hb)
                   have z_BK151 := fun (h0_ : b 9 = true) (h1_ : b 10 = false) => (show w166.heap[gb151]? = some (.cells #[.int .u64 0, .int .u64 0, .int .u64 0, .int .u64 0] 71 (0, 0)) from by first | exact (blk_below (g := gb151) (o := .cells #[.int .u64 0, .int .u64 0, .int .u64 0, .int .u64 0] 71 (0, 0)) (up_ (Q_BK151 h0_ h1_)) hb))
                   clear BK115
                   clear BK116
                   clear BK117
                   clear BK118
                   clear HB
                   have BK115 := n0_
                   have BK116 := n1_
                   have BK117 := n2_
                   have BK118 := n3_
                   have HB := n4_
                   clear n0_ n1_ n2_ n3_ n4_
                   (try clear hb)
                   (try clear hb2)
                   (try clear hk)
                   (try clear hi)
                   refine hK.out _ _ ⟨gb151, m9_, (by rw [ha.out]; exact putSel_upk 6 hb_ rfl rfl rfl), (up_ BK115.out), (up_ BK116.out), (up_ BK117.out), (up_ BK118.out), (bw_ HB.out), z_BK151, Q_GW151, Q_GE151, Q_NB115_151, Q_NB151_115, Q_NB116_151, Q_NB151_116, Q_NB117_151, Q_NB151_117, Q_NB118_151, Q_NB151_118, fun h0_ => absurd ((hoff 10 (by kernel_rfl)).symm.trans h0_) (by decide), Q_X9_⟩
                 refine steps_cons ?_ ?_
                 · rintro b a w' ⟨gb151, m9_, ha, Q_BK115, Q_BK116, Q_BK117, Q_BK118, Q_HB, Q_BK151, Q_GW151, Q_GE151, Q_NB115_151, Q_NB151_115, Q_NB116_151, Q_NB151_116, Q_NB117_151, Q_NB151_117, Q_NB118_151, Q_NB151_118, Q_BK151_e10, Q_X9_⟩ hb_ hon hoff
                   refine ⟨_, rfl, fun K hK => ?_⟩
                   replace ha := aM ha
                   have BK115 := aM Q_BK115
                   have BK116 := aM Q_BK116
                   have BK117 := aM Q_BK117
                   have BK118 := aM Q_BK118
                   have HB := aM Q_HB
                   refine box_step ?hg (N := 14) ?hd (cs := #[.int .u64 0, .int .u64 0, .int .u64 0, .int .u64 0]) (t := 71) ?hr ?_; (case hd => rfl); (case hg => rfl); (case hr => first | (go_simp; done) | (go_simp; rfl))
                   intro gb151 hg w164 hbox hb
                   have n0_ := aM (blk_below (g := gb115) (o := .cells #[.int .i64 a0_0, .slice A0_1 l0_1.length c0_1, .slice (some ad142) l0_2.length c0_2] 25 (0, 0)) (up_ BK115.out) hb)
                   have n1_ := aM (blk_below (g := gb116) (o := .cells #[.int .u64 a2_0, .int .u64 a2_1, .int .u64 a2_2, .int .u64 a2_3] 71 (0, 0)) (up_ BK116.out) hb)
                   have n2_ := aM (blk_below (g := gb117) (o := .cells #[.int .u64 0, .int .u64 0, .int .u64 0, .int .u64 0] 71 (0, 0)) (up_ BK117.out) hb)
                   have n3_ := aM (blk_below (g := gb118) (o := .cells #[.int .u64 x119000_1, .int .u64 x119001_1, .int .u64 x119002_1, .int .u64 x119003_1] 71 (0, 0)) (up_ BK118.out) hb)
                   have n4_ := aM (below_step (bw_ HB.out) hb)
                   have n5_ := aM (hbox)
                   have n6_ := aM ((by rw [hg]; exact (below_size (bw_ HB.out)) : w.heap.size ≤ gb151))
                   have n7_ := aM ((by rw [hg]; exact (below_size (bw_ HB.out)) : w.heap.size ≤ gb151))
                   have n8_ := aM ((by rw [hg]; exact Nat.ne_of_lt (blk_lt (g := gb115) (o := .cells #[.int .i64 a0_0, .slice A0_1 l0_1.length c0_1, .slice (some ad142) l0_2.length c0_2] 25 (0, 0)) (up_ BK115.out)) : gb115 ≠ gb151))
                   have n9_ := aM ((by rw [hg]; exact Nat.ne_of_gt (blk_lt (g := gb115) (o := .cells #[.int .i64 a0_0, .slice A0_1 l0_1.length c0_1, .slice (some ad142) l0_2.length c0_2] 25 (0, 0)) (up_ BK115.out)) : gb151 ≠ gb115))
                   have n10_ := aM ((by rw [hg]; exact Nat.ne_of_lt (blk_lt (g := gb116) (o := .cells #[.int .u64 a2_0, .int .u64 a2_1, .int .u64 a2_2, .int .u64 a2_3] 71 (0, 0)) (up_ BK116.out)) : gb116 ≠ gb151))
                   have n11_ := aM ((by rw [hg]; exact Nat.ne_of_gt (blk_lt (g := gb116) (o := .cells #[.int .u64 a2_0, .int .u64 a2_1, .int .u64 a2_2, .int .u64 a2_3] 71 (0, 0)) (up_ BK116.out)) : gb151 ≠ gb116))
                   have n12_ := aM ((by rw [hg]; exact Nat.ne_of_lt (blk_lt (g := gb117) (o := .cells #[.int .u64 0, .int .u64 0, .int .u64 0, .int .u64 0] 71 (0, 0)) (up_ BK117.out)) : gb117 ≠ gb151))
                   have n13_ := aM ((by rw [hg]; exact Nat.ne_of_gt (blk_lt (g := gb117) (o := .cells #[.int .u64 0, .int .u64 0, .int .u64 0, .int .u64 0] 71 (0, 0)) (up_ BK117.out)) : gb151 ≠ gb117))
                   have n14_ := aM ((by rw [hg]; exact Nat.ne_of_lt (blk_lt (g := gb118) (o := .cells #[.int .u64 x119000_1, .int .u64 x119001_1, .int .u64 x119002_1, .int .u64 x119003_1] 71 (0, 0)) (up_ BK118.out)) : gb118 ≠ gb151))
                   have n15_ := aM ((by rw [hg]; exact Nat.ne_of_gt (blk_lt (g := gb118) (o := .cells #[.int .u64 x119000_1, .int .u64 x119001_1, .int .u64 x119002_1, .int .u64 x119003_1] 71 (0, 0)) (up_ BK118.out)) : gb151 ≠ gb118))
                   clear BK115
                   clear BK116
                   clear BK117
                   clear BK118
                   clear HB
                   have BK115 := n0_
                   have BK116 := n1_
                   have BK117 := n2_
                   have BK118 := n3_
                   have HB := n4_
                   have BK151 := n5_
                   have GW151 := n6_
                   have GE151 := n7_
                   have NB115_151 := n8_
                   have NB151_115 := n9_
                   have NB116_151 := n10_
                   have NB151_116 := n11_
                   have NB117_151 := n12_
                   have NB151_117 := n13_
                   have NB118_151 := n14_
                   have NB151_118 := n15_
                   clear n0_ n1_ n2_ n3_ n4_ n5_ n6_ n7_ n8_ n9_ n10_ n11_ n12_ n13_ n14_ n15_
                   clear hb hbox hg
                   refine hK.out _ _ ⟨gb151, (.pointer (some ⟨gb151, 0, none⟩)), (by rw [ha.out]; exact putSel_upk 7 hb_ rfl rfl rfl), (up_ BK115.out), (up_ BK116.out), (up_ BK117.out), (up_ BK118.out), (bw_ HB.out), fun _ _ => (up_ BK151.out), fun _ => GW151.out, fun _ => GE151.out, fun _ => NB115_151.out, fun _ => NB151_115.out, fun _ => NB116_151.out, fun _ => NB151_116.out, fun _ => NB117_151.out, fun _ => NB151_117.out, fun _ => NB118_151.out, fun _ => NB151_118.out, fun h0_ => absurd ((hoff 10 (by kernel_rfl)).symm.trans h0_) (by decide), fun _ => rfl⟩
                 refine steps_cons ?_ ?_
                 · rintro b a w' ⟨gb151, m9_, ha, Q_BK115, Q_BK116, Q_BK117, Q_BK118, Q_HB, Q_BK151, Q_GW151, Q_GE151, Q_NB115_151, Q_NB151_115, Q_NB116_151, Q_NB151_116, Q_NB117_151, Q_NB151_117, Q_NB118_151, Q_NB151_118, Q_BK151_e10, Q_X9_⟩ hb_ hon hoff
                   refine ⟨_, rfl, fun K hK => ?_⟩
                   have e14 : a.tmps[14]? = some (m9_) := by rw [ha]; exact putSel_on (e := (9, 14, m9_)) 7 rfl rfl (hon 9 (by kernel_rfl)) rfl
                   rw [Q_X9_ (hon 9 (by kernel_rfl))] at e14
                   have e81 : a.tmps[81]? = some (.agg #[.int .u64 t147, .int .u64 t148, .int .u64 t149, .int .u64 t150]) := by rw [ha]; exact putSel_on (e := (8, 81, .agg #[.int .u64 t147, .int .u64 t148, .int .u64 t149, .int .u64 t150])) 6 rfl rfl (hon 8 (by kernel_rfl)) rfl
                   replace ha := aM ha
                   have BK115 := aM Q_BK115
                   have BK116 := aM Q_BK116
                   have BK117 := aM Q_BK117
                   have BK118 := aM Q_BK118
                   have HB := aM Q_HB
                   have BK151 := aM (Q_BK151 (hon 9 (by kernel_rfl)) hb_)
                   have GW151 := aM (Q_GW151 (hon 9 (by kernel_rfl)))
                   have GE151 := aM (Q_GE151 (hon 9 (by kernel_rfl)))
                   have NB115_151 := aM (Q_NB115_151 (hon 9 (by kernel_rfl)))
                   have NB151_115 := aM (Q_NB151_115 (hon 9 (by kernel_rfl)))
                   have NB116_151 := aM (Q_NB116_151 (hon 9 (by kernel_rfl)))
                   have NB151_116 := aM (Q_NB151_116 (hon 9 (by kernel_rfl)))
                   have NB117_151 := aM (Q_NB117_151 (hon 9 (by kernel_rfl)))
                   have NB151_117 := aM (Q_NB151_117 (hon 9 (by kernel_rfl)))
                   have NB118_151 := aM (Q_NB118_151 (hon 9 (by kernel_rfl)))
                   have NB151_118 := aM (Q_NB151_118 (hon 9 (by kernel_rfl)))
                   have hs168 : w'.cell? ⟨gb151, 0, none⟩ = some (.int .u64 0) := (blk_cell BK151.out 0).trans rfl
                   have hfs168 := bF BK151.out 0
                   have hns168_0 := NB115_151.out
                   have hns168_1 := NB116_151.out
                   have hns168_2 := NB117_151.out
                   have hns168_3 := NB118_151.out
                   have hms168_0 := NB151_115.out
                   have hms168_1 := NB151_116.out
                   have hms168_2 := NB151_117.out
                   have hms168_3 := NB151_118.out
                   have hs169 : w'.cell? ⟨gb151, 1, none⟩ = some (.int .u64 0) := (blk_cell BK151.out 1).trans rfl
                   have hfs169 := bF BK151.out 1
                   have hns169_0 := NB115_151.out
                   have hns169_1 := NB116_151.out
                   have hns169_2 := NB117_151.out
                   have hns169_3 := NB118_151.out
                   have hms169_0 := NB151_115.out
                   have hms169_1 := NB151_116.out
                   have hms169_2 := NB151_117.out
                   have hms169_3 := NB151_118.out
                   have hs170 : w'.cell? ⟨gb151, 2, none⟩ = some (.int .u64 0) := (blk_cell BK151.out 2).trans rfl
                   have hfs170 := bF BK151.out 2
                   have hns170_0 := NB115_151.out
                   have hns170_1 := NB116_151.out
                   have hns170_2 := NB117_151.out
                   have hns170_3 := NB118_151.out
                   have hms170_0 := NB151_115.out
                   have hms170_1 := NB151_116.out
                   have hms170_2 := NB151_117.out
                   have hms170_3 := NB151_118.out
                   have hs171 : w'.cell? ⟨gb151, 3, none⟩ = some (.int .u64 0) := (blk_cell BK151.out 3).trans rfl
                   have hfs171 := bF BK151.out 3
                   have hns171_0 := NB115_151.out
                   have hns171_1 := NB116_151.out
                   have hns171_2 := NB117_151.out
                   have hns171_3 := NB118_151.out
                   have hms171_0 := NB151_115.out
                   have hms171_1 := NB151_116.out
                   have hms171_2 := NB151_117.out
                   have hms171_3 := NB151_118.out
                   refine skip_ (w1 := ?_) (by rfl) rfl ?_ ?_
                   rotate_left
                   · go_simp
                     rfl
                   refine hK.out _ _ ⟨gb151, m9_, (by rw [ha.out]; exact putSel_none (v := undef) rfl), (by (with_reducible repeat (first | apply bkN | apply bkD | apply bkA)); refine blk_far ?_ NB115_151.out _; (with_reducible repeat (first | apply bkN | apply bkD | apply bkA)); refine blk_far ?_ NB115_151.out _; (with_reducible repeat (first | apply bkN | apply bkD | apply bkA)); refine blk_far ?_ NB115_151.out _; (with_reducible repeat (first | apply bkN | apply bkD | apply bkA)); refine blk_far ?_ NB115_151.out _; (with_reducible repeat (first | apply bkN | apply bkD | apply bkA)); exact BK115.out), (by (with_reducible repeat (first | apply bkN | apply bkD | apply bkA)); refine blk_far ?_ NB116_151.out _; (with_reducible repeat (first | apply bkN | apply bkD | apply bkA)); refine blk_far ?_ NB116_151.out _; (with_reducible repeat (first | apply bkN | apply bkD | apply bkA)); refine blk_far ?_ NB116_151.out _; (with_reducible repeat (first | apply bkN | apply bkD | apply bkA)); refine blk_far ?_ NB116_151.out _; (with_reducible repeat (first | apply bkN | apply bkD | apply bkA)); exact BK116.out), (by (with_reducible repeat (first | apply bkN | apply bkD | apply bkA)); refine blk_far ?_ NB117_151.out _; (with_reducible repeat (first | apply bkN | apply bkD | apply bkA)); refine blk_far ?_ NB117_151.out _; (with_reducible repeat (first | apply bkN | apply bkD | apply bkA)); refine blk_far ?_ NB117_151.out _; (with_reducible repeat (first | apply bkN | apply bkD | apply bkA)); refine blk_far ?_ NB117_151.out _; (with_reducible repeat (first | apply bkN | apply bkD | apply bkA)); exact BK117.out), (by (with_reducible repeat (first | apply bkN | apply bkD | apply bkA)); refine blk_far ?_ NB118_151.out _; (with_reducible repeat (first | apply bkN | apply bkD | apply bkA)); refine blk_far ?_ NB118_151.out _; (with_reducible repeat (first | apply bkN | apply bkD | apply bkA)); refine blk_far ?_ NB118_151.out _; (with_reducible repeat (first | apply bkN | apply bkD | apply bkA)); refine blk_far ?_ NB118_151.out _; (with_reducible repeat (first | apply bkN | apply bkD | apply bkA)); exact BK118.out), (bw_ HB.out), fun _ h1_ => absurd ((up_self b 10).symm.trans h1_) (by decide), fun _ => GW151.out, fun _ => GE151.out, fun _ => NB115_151.out, fun _ => NB151_115.out, fun _ => NB116_151.out, fun _ => NB151_116.out, fun _ => NB117_151.out, fun _ => NB151_117.out, fun _ => NB118_151.out, fun _ => NB151_118.out, fun _ => (by (with_reducible repeat (first | apply bkN | apply bkD | apply bkA)); refine blk_put (cs := #[.int .u64 t147, .int .u64 t148, .int .u64 t149, .int .u64 0]) ?_ 3 _ rfl; (with_reducible repeat (first | apply bkN | apply bkD | apply bkA)); refine blk_put (cs := #[.int .u64 t147, .int .u64 t148, .int .u64 0, .int .u64 0]) ?_ 2 _ rfl; (with_reducible repeat (first | apply bkN | apply bkD | apply bkA)); refine blk_put (cs := #[.int .u64 t147, .int .u64 0, .int .u64 0, .int .u64 0]) ?_ 1 _ rfl; (with_reducible repeat (first | apply bkN | apply bkD | apply bkA)); refine blk_put (cs := #[.int .u64 0, .int .u64 0, .int .u64 0, .int .u64 0]) ?_ 0 _ rfl; (with_reducible repeat (first | apply bkN | apply bkD | apply bkA)); exact BK151.out), Q_X9_⟩
                 exact steps_nil
               rintro b a w171 hall ⟨gb151, m9_, ha, Q_BK115, Q_BK116, Q_BK117, Q_BK118, Q_HB, Q_BK151, Q_GW151, Q_GE151, Q_NB115_151, Q_NB151_115, Q_NB116_151, Q_NB151_116, Q_NB117_151, Q_NB151_117, Q_NB118_151, Q_NB151_118, Q_BK151_e10, Q_X9_⟩
               clear BK115 BK116 BK117 BK118 HB
               have hb0_ := hall 0 (by kernel_rfl)
               have hb2_ := hall 2 (by kernel_rfl)
               have hb3_ := hall 3 (by kernel_rfl)
               have hb4_ := hall 4 (by kernel_rfl)
               have hb6_ := hall 6 (by kernel_rfl)
               have hb7_ := hall 7 (by kernel_rfl)
               have hb8_ := hall 8 (by kernel_rfl)
               have hb9_ := hall 9 (by kernel_rfl)
               have hb10_ := hall 10 (by kernel_rfl)
               subst ha
               obtain rfl := Q_X9_ hb9_
               simp only [putSel, hb0_, hb2_, hb3_, hb4_, hb6_, hb7_, hb8_, hb9_, hb10_, if_true, Act.put, sT, sZ, sS]
               have BK115 := aM Q_BK115
               clear Q_BK115
               have BK116 := aM Q_BK116
               clear Q_BK116
               have BK117 := aM Q_BK117
               clear Q_BK117
               have BK118 := aM Q_BK118
               clear Q_BK118
               have HB := aM Q_HB
               clear Q_HB
               clear Q_BK151
               have GW151 := aM (Q_GW151 hb9_)
               clear Q_GW151
               have GE151 := aM (Q_GE151 hb9_)
               clear Q_GE151
               have NB115_151 := aM (Q_NB115_151 hb9_)
               clear Q_NB115_151
               have NB151_115 := aM (Q_NB151_115 hb9_)
               clear Q_NB151_115
               have NB116_151 := aM (Q_NB116_151 hb9_)
               clear Q_NB116_151
               have NB151_116 := aM (Q_NB151_116 hb9_)
               clear Q_NB151_116
               have NB117_151 := aM (Q_NB117_151 hb9_)
               clear Q_NB117_151
               have NB151_117 := aM (Q_NB151_117 hb9_)
               clear Q_NB151_117
               have NB118_151 := aM (Q_NB118_151 hb9_)
               clear Q_NB118_151
               have NB151_118 := aM (Q_NB151_118 hb9_)
               clear Q_NB151_118
               have BK151 := aM (Q_BK151_e10 hb10_)
               clear Q_BK151_e10
               clear hall hb0_ hb2_ hb3_ hb4_ hb6_ hb7_ hb8_ hb9_ hb10_
               have hnb172 := NB151_115.out
               have hnc172 := NB115_151.out
               have hnb173 := NB151_116.out
               have hnc173 := NB116_151.out
               have hnb174 := NB151_117.out
               have hnc174 := NB117_151.out
               have hnb175 := NB151_118.out
               have hnc175 := NB118_151.out
               have hcz176_0 : w171.cell? ⟨gb151, 0, none⟩ = some (.int .u64 t147) := (blk_cell BK151.out 0).trans rfl
               have hcz176_1 : w171.cell? ⟨gb151, 1, none⟩ = some (.int .u64 t148) := (blk_cell BK151.out 1).trans rfl
               have hcz176_2 : w171.cell? ⟨gb151, 2, none⟩ = some (.int .u64 t149) := (blk_cell BK151.out 2).trans rfl
               have hcz176_3 : w171.cell? ⟨gb151, 3, none⟩ = some (.int .u64 t150) := (blk_cell BK151.out 3).trans rfl
               have hfz176_0 := bF BK151.out 0
               have hfz176_1 := bF BK151.out 1
               have hfz176_2 := bF BK151.out 2
               have hfz176_3 := bF BK151.out 3
               have hnb177 := NB118_115.out
               have hnc177 := NB115_118.out
               have hnb178 := NB118_116.out
               have hnc178 := NB116_118.out
               have hnb179 := NB118_117.out
               have hnc179 := NB117_118.out
               have hcz180_0 : w171.cell? ⟨gb118, 0, none⟩ = some (.int .u64 x119000_1) := (blk_cell BK118.out 0).trans rfl
               have hcz180_1 : w171.cell? ⟨gb118, 1, none⟩ = some (.int .u64 x119001_1) := (blk_cell BK118.out 1).trans rfl
               have hcz180_2 : w171.cell? ⟨gb118, 2, none⟩ = some (.int .u64 x119002_1) := (blk_cell BK118.out 2).trans rfl
               have hcz180_3 : w171.cell? ⟨gb118, 3, none⟩ = some (.int .u64 x119003_1) := (blk_cell BK118.out 3).trans rfl
               have hfz180_0 := bF BK118.out 0
               have hfz180_1 := bF BK118.out 1
               have hfz180_2 := bF BK118.out 2
               have hfz180_3 := bF BK118.out 3
               try go_wp2
               repeat (go_step3; try go_wp2_with (fail))
               go_roundg k1
               case measure => have := HK1.out; omega
               case rel => exact ⟨(t147), (t148), (t149), (t150), H', ⟨by have := HK1.out; omega⟩, ⟨by (with_reducible repeat (first | apply bkN | apply bkD | apply bkA)); refine blk_far ?_ NB115_118.out _; (with_reducible repeat (first | apply bkN | apply bkD | apply bkA)); refine blk_far ?_ NB115_118.out _; (with_reducible repeat (first | apply bkN | apply bkD | apply bkA)); refine blk_far ?_ NB115_118.out _; (with_reducible repeat (first | apply bkN | apply bkD | apply bkA)); refine blk_far ?_ NB115_118.out _; (with_reducible repeat (first | apply bkN | apply bkD | apply bkA)); exact BK115.out⟩, ⟨by (with_reducible repeat (first | apply bkN | apply bkD | apply bkA)); refine blk_far ?_ NB116_118.out _; (with_reducible repeat (first | apply bkN | apply bkD | apply bkA)); refine blk_far ?_ NB116_118.out _; (with_reducible repeat (first | apply bkN | apply bkD | apply bkA)); refine blk_far ?_ NB116_118.out _; (with_reducible repeat (first | apply bkN | apply bkD | apply bkA)); refine blk_far ?_ NB116_118.out _; (with_reducible repeat (first | apply bkN | apply bkD | apply bkA)); exact BK116.out⟩, ⟨by (with_reducible repeat (first | apply bkN | apply bkD | apply bkA)); refine blk_far ?_ NB117_118.out _; (with_reducible repeat (first | apply bkN | apply bkD | apply bkA)); refine blk_far ?_ NB117_118.out _; (with_reducible repeat (first | apply bkN | apply bkD | apply bkA)); refine blk_far ?_ NB117_118.out _; (with_reducible repeat (first | apply bkN | apply bkD | apply bkA)); refine blk_far ?_ NB117_118.out _; (with_reducible repeat (first | apply bkN | apply bkD | apply bkA)); exact BK117.out⟩, ⟨by (with_reducible repeat (first | apply bkN | apply bkD | apply bkA)); refine blk_put (cs := #[.int .u64 t147, .int .u64 t148, .int .u64 t149, .int .u64 x119003_1]) ?_ 3 _ rfl; (with_reducible repeat (first | apply bkN | apply bkD | apply bkA)); refine blk_put (cs := #[.int .u64 t147, .int .u64 t148, .int .u64 x119002_1, .int .u64 x119003_1]) ?_ 2 _ rfl; (with_reducible repeat (first | apply bkN | apply bkD | apply bkA)); refine blk_put (cs := #[.int .u64 t147, .int .u64 x119001_1, .int .u64 x119002_1, .int .u64 x119003_1]) ?_ 1 _ rfl; (with_reducible repeat (first | apply bkN | apply bkD | apply bkA)); refine blk_put (cs := #[.int .u64 x119000_1, .int .u64 x119001_1, .int .u64 x119002_1, .int .u64 x119003_1]) ?_ 0 _ rfl; (with_reducible repeat (first | apply bkN | apply bkD | apply bkA)); exact BK118.out⟩, ⟨by repeat (first | (with_reducible first | exact HB.out | apply blA | apply blN | apply blD | refine bS ?_ GE115.out | refine bS ?_ GE116.out | refine bS ?_ GE117.out | refine bS ?_ GE118.out | refine bS ?_ GE151.out) | exact HB.out)⟩⟩
           · rw [if_neg c138] at H
             exact absurd H (by simp)
       · rw [if_neg c124] at H
         have c124b0 : (a0_0 == 4) = false := beq_eq_false_iff_ne.mpr c124
         have c124b1 : (a0_0 != 4) = true := bne_iff_ne.mpr c124
         simp only [Option.some.injEq, Prod.mk.injEq] at H
         obtain ⟨rfl, rfl, rfl, rfl⟩ := H
         go_enter Try.func46, Try.ntmps46
         go_wp2_with (first | ((with_reducible refine gate_dst (N := 3) rfl ?_); refine box_event ?hg (N := 3) ?hd (cs := #[.int .i64 a0_0, .slice A0_1 l0_1.length c0_1, .slice A0_2 l0_2.length c0_2]) (t := 25) ?hr ?_; (case hd => rfl); (case hg => rfl); (case hr => first | (go_simp; done) | (go_simp; rfl)); intro gb115 hg w181 hbox hb; have n0_ := aM (below_step (bw_ HB.out) hb); have n1_ := aM (hbox); have n2_ := aM ((by rw [hg]; exact (below_size (bw_ HB.out)) : w.heap.size ≤ gb115)); have n3_ := aM ((by rw [hg]; exact (below_size (bw_ HB.out)) : w.heap.size ≤ gb115)); clear HB; have HB := n0_; have BK115 := n1_; have GW115 := n2_; have GE115 := n3_; clear n0_ n1_ n2_ n3_; clear hb hbox hg) | ((with_reducible refine gate_dst (N := 5) rfl ?_); refine box_event ?hg (N := 5) ?hd (cs := #[.int .u64 a2_0, .int .u64 a2_1, .int .u64 a2_2, .int .u64 a2_3]) (t := 71) ?hr ?_; (case hd => rfl); (case hg => rfl); (case hr => first | (go_simp; done) | (go_simp; rfl)); intro gb116 hg w182 hbox hb; have n0_ := aM (blk_below (g := gb115) (o := .cells #[.int .i64 a0_0, .slice A0_1 l0_1.length c0_1, .slice A0_2 l0_2.length c0_2] 25 (0, 0)) (up_ BK115.out) hb); have n1_ := aM (below_step (bw_ HB.out) hb); have n2_ := aM (hbox); have n3_ := aM ((by rw [hg]; exact (below_size (bw_ HB.out)) : w.heap.size ≤ gb116)); have n4_ := aM ((by rw [hg]; exact (below_size (bw_ HB.out)) : w.heap.size ≤ gb116)); have n5_ := aM ((by rw [hg]; exact Nat.ne_of_lt (blk_lt (g := gb115) (o := .cells #[.int .i64 a0_0, .slice A0_1 l0_1.length c0_1, .slice A0_2 l0_2.length c0_2] 25 (0, 0)) (up_ BK115.out)) : gb115 ≠ gb116)); have n6_ := aM ((by rw [hg]; exact Nat.ne_of_gt (blk_lt (g := gb115) (o := .cells #[.int .i64 a0_0, .slice A0_1 l0_1.length c0_1, .slice A0_2 l0_2.length c0_2] 25 (0, 0)) (up_ BK115.out)) : gb116 ≠ gb115)); clear BK115; clear HB; have BK115 := n0_; have HB := n1_; have BK116 := n2_; have GW116 := n3_; have GE116 := n4_; have NB115_116 := n5_; have NB116_115 := n6_; clear n0_ n1_ n2_ n3_ n4_ n5_ n6_; clear hb hbox hg) | ((with_reducible refine gate_dst (N := 6) rfl ?_); refine box_event ?hg (N := 6) ?hd (cs := #[.int .u64 0, .int .u64 0, .int .u64 0, .int .u64 0]) (t := 71) ?hr ?_; (case hd => rfl); (case hg => rfl); (case hr => first | (go_simp; done) | (go_simp; rfl)); intro gb117 hg w183 hbox hb; have n0_ := aM (blk_below (g := gb115) (o := .cells #[.int .i64 a0_0, .slice A0_1 l0_1.length c0_1, .slice A0_2 l0_2.length c0_2] 25 (0, 0)) (up_ BK115.out) hb); have n1_ := aM (blk_below (g := gb116) (o := .cells #[.int .u64 a2_0, .int .u64 a2_1, .int .u64 a2_2, .int .u64 a2_3] 71 (0, 0)) (up_ BK116.out) hb); have n2_ := aM (below_step (bw_ HB.out) hb); have n3_ := aM (hbox); have n4_ := aM ((by rw [hg]; exact (below_size (bw_ HB.out)) : w.heap.size ≤ gb117)); have n5_ := aM ((by rw [hg]; exact (below_size (bw_ HB.out)) : w.heap.size ≤ gb117)); have n6_ := aM ((by rw [hg]; exact Nat.ne_of_lt (blk_lt (g := gb115) (o := .cells #[.int .i64 a0_0, .slice A0_1 l0_1.length c0_1, .slice A0_2 l0_2.length c0_2] 25 (0, 0)) (up_ BK115.out)) : gb115 ≠ gb117)); have n7_ := aM ((by rw [hg]; exact Nat.ne_of_gt (blk_lt (g := gb115) (o := .cells #[.int .i64 a0_0, .slice A0_1 l0_1.length c0_1, .slice A0_2 l0_2.length c0_2] 25 (0, 0)) (up_ BK115.out)) : gb117 ≠ gb115)); have n8_ := aM ((by rw [hg]; exact Nat.ne_of_lt (blk_lt (g := gb116) (o := .cells #[.int .u64 a2_0, .int .u64 a2_1, .int .u64 a2_2, .int .u64 a2_3] 71 (0, 0)) (up_ BK116.out)) : gb116 ≠ gb117)); have n9_ := aM ((by rw [hg]; exact Nat.ne_of_gt (blk_lt (g := gb116) (o := .cells #[.int .u64 a2_0, .int .u64 a2_1, .int .u64 a2_2, .int .u64 a2_3] 71 (0, 0)) (up_ BK116.out)) : gb117 ≠ gb116)); clear BK115; clear BK116; clear HB; have BK115 := n0_; have BK116 := n1_; have HB := n2_; have BK117 := n3_; have GW117 := n4_; have GE117 := n5_; have NB115_117 := n6_; have NB117_115 := n7_; have NB116_117 := n8_; have NB117_116 := n9_; clear n0_ n1_ n2_ n3_ n4_ n5_ n6_ n7_ n8_ n9_; clear hb hbox hg) | ((with_reducible refine gate_dst (N := 7) rfl ?_); refine box_event ?hg (N := 7) ?hd (cs := #[.int .u64 0, .int .u64 0, .int .u64 0, .int .u64 0]) (t := 71) ?hr ?_; (case hd => rfl); (case hg => rfl); (case hr => first | (go_simp; done) | (go_simp; rfl)); intro gb118 hg w184 hbox hb; have n0_ := aM (blk_below (g := gb115) (o := .cells #[.int .i64 a0_0, .slice A0_1 l0_1.length c0_1, .slice A0_2 l0_2.length c0_2] 25 (0, 0)) (up_ BK115.out) hb); have n1_ := aM (blk_below (g := gb116) (o := .cells #[.int .u64 a2_0, .int .u64 a2_1, .int .u64 a2_2, .int .u64 a2_3] 71 (0, 0)) (up_ BK116.out) hb); have n2_ := aM (blk_below (g := gb117) (o := .cells #[.int .u64 0, .int .u64 0, .int .u64 0, .int .u64 0] 71 (0, 0)) (up_ BK117.out) hb); have n3_ := aM (below_step (bw_ HB.out) hb); have n4_ := aM (hbox); have n5_ := aM ((by rw [hg]; exact (below_size (bw_ HB.out)) : w.heap.size ≤ gb118)); have n6_ := aM ((by rw [hg]; exact (below_size (bw_ HB.out)) : w.heap.size ≤ gb118)); have n7_ := aM ((by rw [hg]; exact Nat.ne_of_lt (blk_lt (g := gb115) (o := .cells #[.int .i64 a0_0, .slice A0_1 l0_1.length c0_1, .slice A0_2 l0_2.length c0_2] 25 (0, 0)) (up_ BK115.out)) : gb115 ≠ gb118)); have n8_ := aM ((by rw [hg]; exact Nat.ne_of_gt (blk_lt (g := gb115) (o := .cells #[.int .i64 a0_0, .slice A0_1 l0_1.length c0_1, .slice A0_2 l0_2.length c0_2] 25 (0, 0)) (up_ BK115.out)) : gb118 ≠ gb115)); have n9_ := aM ((by rw [hg]; exact Nat.ne_of_lt (blk_lt (g := gb116) (o := .cells #[.int .u64 a2_0, .int .u64 a2_1, .int .u64 a2_2, .int .u64 a2_3] 71 (0, 0)) (up_ BK116.out)) : gb116 ≠ gb118)); have n10_ := aM ((by rw [hg]; exact Nat.ne_of_gt (blk_lt (g := gb116) (o := .cells #[.int .u64 a2_0, .int .u64 a2_1, .int .u64 a2_2, .int .u64 a2_3] 71 (0, 0)) (up_ BK116.out)) : gb118 ≠ gb116)); have n11_ := aM ((by rw [hg]; exact Nat.ne_of_lt (blk_lt (g := gb117) (o := .cells #[.int .u64 0, .int .u64 0, .int .u64 0, .int .u64 0] 71 (0, 0)) (up_ BK117.out)) : gb117 ≠ gb118)); have n12_ := aM ((by rw [hg]; exact Nat.ne_of_gt (blk_lt (g := gb117) (o := .cells #[.int .u64 0, .int .u64 0, .int .u64 0, .int .u64 0] 71 (0, 0)) (up_ BK117.out)) : gb118 ≠ gb117)); clear BK115; clear BK116; clear BK117; clear HB; have BK115 := n0_; have BK116 := n1_; have BK117 := n2_; have HB := n3_; have BK118 := n4_; have GW118 := n5_; have GE118 := n6_; have NB115_118 := n7_; have NB118_115 := n8_; have NB116_118 := n9_; have NB118_116 := n10_; have NB117_118 := n11_; have NB118_117 := n12_; clear n0_ n1_ n2_ n3_ n4_ n5_ n6_ n7_ n8_ n9_ n10_ n11_ n12_; clear hb hbox hg; have hnb185 := NB115_116.out; have hnc185 := NB116_115.out; have hnb186 := NB115_117.out; have hnc186 := NB117_115.out; have hnb187 := NB115_118.out; have hnc187 := NB118_115.out; have hcz188_0 : w184.cell? ⟨gb115, 0, none⟩ = some (.int .i64 a0_0) := (blk_cell BK115.out 0).trans rfl; have hcz188_1 : w184.cell? ⟨gb115, 1, none⟩ = some (.slice A0_1 l0_1.length c0_1) := (blk_cell BK115.out 1).trans rfl; have hcz188_2 : w184.cell? ⟨gb115, 2, none⟩ = some (.slice A0_2 l0_2.length c0_2) := (blk_cell BK115.out 2).trans rfl; have hfz188_0 := bF BK115.out 0; have hfz188_1 := bF BK115.out 1; have hfz188_2 := bF BK115.out 2; have hnb189 := NB118_116.out; have hnc189 := NB116_118.out; have hnb190 := NB118_117.out; have hnc190 := NB117_118.out; have hcz191_0 : w184.cell? ⟨gb118, 0, none⟩ = some (.int .u64 0) := (blk_cell BK118.out 0).trans rfl; have hcz191_1 : w184.cell? ⟨gb118, 1, none⟩ = some (.int .u64 0) := (blk_cell BK118.out 1).trans rfl; have hcz191_2 : w184.cell? ⟨gb118, 2, none⟩ = some (.int .u64 0) := (blk_cell BK118.out 2).trans rfl; have hcz191_3 : w184.cell? ⟨gb118, 3, none⟩ = some (.int .u64 0) := (blk_cell BK118.out 3).trans rfl; have hfz191_0 := bF BK118.out 0; have hfz191_1 := bF BK118.out 1; have hfz191_2 := bF BK118.out 2; have hfz191_3 := bF BK118.out 3; have hnb192 := NB117_116.out; have hnc192 := NB116_117.out; have hcz193_0 : w184.cell? ⟨gb117, 0, none⟩ = some (.int .u64 0) := (blk_cell BK117.out 0).trans rfl; have hcz193_1 : w184.cell? ⟨gb117, 1, none⟩ = some (.int .u64 0) := (blk_cell BK117.out 1).trans rfl; have hcz193_2 : w184.cell? ⟨gb117, 2, none⟩ = some (.int .u64 0) := (blk_cell BK117.out 2).trans rfl; have hcz193_3 : w184.cell? ⟨gb117, 3, none⟩ = some (.int .u64 0) := (blk_cell BK117.out 3).trans rfl; have hfz193_0 := bF BK117.out 0; have hfz193_1 := bF BK117.out 1; have hfz193_2 := bF BK117.out 2; have hfz193_3 := bF BK117.out 3))
         repeat (go_step3; try go_wp2_with (fail))
         refine bodyPost_ret (results_cell_row rfl _ _ gb117 71 #[.int .u64 0, .int .u64 0, .int .u64 0, .int .u64 0] (0, 0) _ rfl (by (with_reducible repeat (first | apply bkN | apply bkD | apply bkA)); refine blk_put (cs := #[.int .u64 0, .int .u64 0, .int .u64 0, .int .u64 0]) ?_ 3 _ rfl; (with_reducible repeat (first | apply bkN | apply bkD | apply bkA)); refine blk_put (cs := #[.int .u64 0, .int .u64 0, .int .u64 0, .int .u64 0]) ?_ 2 _ rfl; (with_reducible repeat (first | apply bkN | apply bkD | apply bkA)); refine blk_put (cs := #[.int .u64 0, .int .u64 0, .int .u64 0, .int .u64 0]) ?_ 1 _ rfl; (with_reducible repeat (first | apply bkN | apply bkD | apply bkA)); refine blk_put (cs := #[.int .u64 0, .int .u64 0, .int .u64 0, .int .u64 0]) ?_ 0 _ rfl; (with_reducible repeat (first | apply bkN | apply bkD | apply bkA)); exact BK117.out) Try.underlying71 rfl (by kernel_rfl)) rfl ?_
         exact ⟨by first | rfl | (simp [errW_none, errW_some] <;> rfl) | (simp [*, errW_none, errW_some] <;> rfl), by repeat (first | (with_reducible first | exact HB.out | apply blA | apply blN | apply blD | refine bS ?_ GE115.out | refine bS ?_ GE116.out | refine bS ?_ GE117.out | refine bS ?_ GE118.out) | exact HB.out)⟩
end Go.Proofs.Ytlkjfjlmjgkheaa.H
