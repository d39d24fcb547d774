import Derived.Test.YtlkjfjlmjgkheaaGx0
import Derived.Test.YtlkjfjlmjgkheaaGx3
import Derived.Test.YtlkjfjlmjgkheaaGx7
namespace Go.Proofs.Ytlkjfjlmjgkheaa.G
open Go.RowKit Go.Proofs.YtlkjfjlmjgkheaaW.PrintWords Go.Proofs.YtlkjfjlmjgkheaaW.PrintLast Go.Proofs.YtlkjfjlmjgkheaaW.PrintMore
attribute [local go_sem] max2_int min2_int max_two min_two max_three min_three max_four min_four
set_option linter.unusedVariables false
set_option linter.unusedSimpArgs false
mutual
def pat_Times.j1 : Nat → Int → Int → Int → List (S66) → List (S25) → Option (Int × (List (S66)) × (List (S25)) × Int)
 | 0, _, _, _, _, _ => none
 | k + 1, x1, x2, x180000, x180001, x180002 => pat_Times.l0 k x1 x2 x1 0 x180000 x180001 x180002 2 ([] : List (S25))
def pat_Times.l0 : Nat → Int → Int → Int → Int → Int → List (S66) → List (S25) → Int → List (S25) → Option (Int × (List (S66)) × (List (S25)) × Int)
 | 0, _, _, _, _, _, _, _, _, _ => none
 | k + 1, x1, x2, x42, x43, x180000, x180001, x180002, x183000, x183002 => if x43 < x42 then ((pat_twin.f k x180000 x180001 x180002).bind fun bt183 => (if x183002.length < 2513169434916 then (pat_Times.l0 k x1 x2 x42 (wrap64 (x43 + 1)) x180000 x180001 x180002 x183000 (x183002 ++ [(⟨bt183.1, bt183.2.1, bt183.2.2⟩ : S25)])) else (none))) else (if x2 < 0 then ((pat_twin.f k x180000 x180001 x180002).bind fun bt193 => (if x183002.length < 2513169434916 then (pat_Times.j3 k x1 x2 x180000 x180001 x180002 x183000 (x183002 ++ [(⟨4, ([] : List (S66)), (([(⟨bt193.1, bt193.2.1, bt193.2.2⟩ : S25)] : List (S25)))⟩ : S25)])) else (none))) else (pat_Times.j3 k x1 x2 x180000 x180001 x180002 x183000 x183002))
def pat_Times.j3 : Nat → Int → Int → Int → List (S66) → List (S25) → Int → List (S25) → Option (Int × (List (S66)) × (List (S25)) × Int)
 | 0, _, _, _, _, _, _, _ => none
 | k + 1, x1, x2, x180000, x180001, x180002, x183000, x183002 => pat_Times.l1 k (mx 0 (wrap64 ((mx x2 x1) - x1))) 0 x180000 x180001 x180002 x183000 x183002
def pat_Times.l1 : Nat → Int → Int → Int → List (S66) → List (S25) → Int → List (S25) → Option (Int × (List (S66)) × (List (S25)) × Int)
 | 0, _, _, _, _, _, _, _ => none
 | k + 1, x69, x70, x180000, x180001, x180002, x183000, x183002 => if x70 < x69 then ((pat_twin.f k x180000 x180001 x180002).bind fun bt206 => (if x183002.length < 2513169434916 then (pat_Times.l1 k x69 (wrap64 (x70 + 1)) x180000 x180001 x180002 x183000 (x183002 ++ [(⟨3, ([] : List (S66)), (([(⟨bt206.1, bt206.2.1, bt206.2.2⟩ : S25), (⟨2, ([] : List (S66)), ([] : List (S25))⟩ : S25)] : List (S25)))⟩ : S25)])) else (none))) else ((pat_Right.f k x183000 ([] : List (S66)) x183002).bind fun t219 => (if t219 = true then (some (x183000, ([] : List (S66)), x183002, 0)) else (some (0, ([] : List (S66)), ([] : List (S25)), 6))))
def pat_Times.j0 : Nat → Int → Int → Bool → Int → List (S66) → List (S25) → Option (Int × (List (S66)) × (List (S25)) × Int)
 | 0, _, _, _, _, _, _ => none
 | k + 1, x1, x2, x18, x180000, x180001, x180002 => if x18 = true then (some (0, ([] : List (S66)), ([] : List (S25)), 2)) else (if x1 > 200 then (some (0, ([] : List (S66)), ([] : List (S25)), 6)) else (if x2 ≥ 0 then (if (wrap64 (x2 - x1)) > 200 then (some (0, ([] : List (S66)), ([] : List (S25)), 6)) else (pat_Times.j1 k x1 x2 x180000 x180001 x180002)) else (pat_Times.j1 k x1 x2 x180000 x180001 x180002)))
end
def pat_Times.f (k : Nat) (a0_0 : Int) (l0_1 : List (S66)) (l0_2 : List (S25)) (a1 : Int) (a2 : Int) : Option (Int × (List (S66)) × (List (S25)) × Int) := if a1 < 0 then (some (0, ([] : List (S66)), ([] : List (S25)), 2)) else ((pat_Right.f k a0_0 l0_1 l0_2).bind fun t181 => (if t181 = true then (if a2 ≥ 0 then (pat_Times.j0 k a1 a2 (decide (a2 < a1)) a0_0 l0_1 l0_2) else (pat_Times.j0 k a1 a2 false a0_0 l0_1 l0_2)) else (some (0, ([] : List (S66)), ([] : List (S25)), 4))))
theorem pat_Times.mono_l : ∀ k, (∀ y0 y1 y2 y3 y4, LeO (pat_Times.j1 k y0 y1 y2 y3 y4) (pat_Times.j1 (k + 1) y0 y1 y2 y3 y4)) ∧ (∀ y0 y1 y2 y3 y4 y5 y6 y7 y8, LeO (pat_Times.l0 k y0 y1 y2 y3 y4 y5 y6 y7 y8) (pat_Times.l0 (k + 1) y0 y1 y2 y3 y4 y5 y6 y7 y8)) ∧ (∀ y0 y1 y2 y3 y4 y5 y6, LeO (pat_Times.j3 k y0 y1 y2 y3 y4 y5 y6) (pat_Times.j3 (k + 1) y0 y1 y2 y3 y4 y5 y6)) ∧ (∀ y0 y1 y2 y3 y4 y5 y6, LeO (pat_Times.l1 k y0 y1 y2 y3 y4 y5 y6) (pat_Times.l1 (k + 1) y0 y1 y2 y3 y4 y5 y6)) ∧ (∀ y0 y1 y2 y3 y4 y5, LeO (pat_Times.j0 k y0 y1 y2 y3 y4 y5) (pat_Times.j0 (k + 1) y0 y1 y2 y3 y4 y5))
 | 0 => ⟨fun _ _ _ _ _ r h => by simp [pat_Times.j1] at h, fun _ _ _ _ _ _ _ _ _ r h => by simp [pat_Times.l0] at h, fun _ _ _ _ _ _ _ r h => by simp [pat_Times.j3] at h, fun _ _ _ _ _ _ _ r h => by simp [pat_Times.l1] at h, fun _ _ _ _ _ _ r h => by simp [pat_Times.j0] at h⟩
 | k + 1 => by
  obtain ⟨ih0, ih1, ih2, ih3, ih4⟩ := pat_Times.mono_l k
  refine ⟨?_, ?_, ?_, ?_, ?_⟩
  · intro y0 y1 y2 y3 y4
    unfold pat_Times.j1
    repeat' first
    | (with_reducible exact ih0 _ _ _ _ _)
    | (with_reducible exact ih1 _ _ _ _ _ _ _ _ _)
    | (with_reducible exact ih2 _ _ _ _ _ _ _)
    | (with_reducible exact ih3 _ _ _ _ _ _ _)
    | (with_reducible exact ih4 _ _ _ _ _ _)
    | (with_reducible exact pat_Right.mono _ _ _ _)
    | (with_reducible exact pat_twin.mono _ _ _ _)
    | (with_reducible exact LeO.refl _)
    | (with_reducible exact LeO.none _)
    | (with_reducible refine LeO.ite ?_ ?_)
    | (with_reducible refine LeO.bind ?_ (fun _ => ?_))
    | exact ih0 _ _ _ _ _
    | exact ih1 _ _ _ _ _ _ _ _ _
    | exact ih2 _ _ _ _ _ _ _
    | exact ih3 _ _ _ _ _ _ _
    | exact ih4 _ _ _ _ _ _
    | exact pat_Right.mono _ _ _ _
    | exact pat_twin.mono _ _ _ _
    | exact LeO.none _
    | refine LeO.ite ?_ ?_
    | refine LeO.bind ?_ (fun _ => ?_)
  · intro y0 y1 y2 y3 y4 y5 y6 y7 y8
    unfold pat_Times.l0
    repeat' first
    | (with_reducible exact ih0 _ _ _ _ _)
    | (with_reducible exact ih1 _ _ _ _ _ _ _ _ _)
    | (with_reducible exact ih2 _ _ _ _ _ _ _)
    | (with_reducible exact ih3 _ _ _ _ _ _ _)
    | (with_reducible exact ih4 _ _ _ _ _ _)
    | (with_reducible exact pat_Right.mono _ _ _ _)
    | (with_reducible exact pat_twin.mono _ _ _ _)
    | (with_reducible exact LeO.refl _)
    | (with_reducible exact LeO.none _)
    | (with_reducible refine LeO.ite ?_ ?_)
    | (with_reducible refine LeO.bind ?_ (fun _ => ?_))
    | exact ih0 _ _ _ _ _
    | exact ih1 _ _ _ _ _ _ _ _ _
    | exact ih2 _ _ _ _ _ _ _
    | exact ih3 _ _ _ _ _ _ _
    | exact ih4 _ _ _ _ _ _
    | exact pat_Right.mono _ _ _ _
    | exact pat_twin.mono _ _ _ _
    | exact LeO.none _
    | refine LeO.ite ?_ ?_
    | refine LeO.bind ?_ (fun _ => ?_)
  · intro y0 y1 y2 y3 y4 y5 y6
    unfold pat_Times.j3
    repeat' first
    | (with_reducible exact ih0 _ _ _ _ _)
    | (with_reducible exact ih1 _ _ _ _ _ _ _ _ _)
    | (with_reducible exact ih2 _ _ _ _ _ _ _)
    | (with_reducible exact ih3 _ _ _ _ _ _ _)
    | (with_reducible exact ih4 _ _ _ _ _ _)
    | (with_reducible exact pat_Right.mono _ _ _ _)
    | (with_reducible exact pat_twin.mono _ _ _ _)
    | (with_reducible exact LeO.refl _)
    | (with_reducible exact LeO.none _)
    | (with_reducible refine LeO.ite ?_ ?_)
    | (with_reducible refine LeO.bind ?_ (fun _ => ?_))
    | exact ih0 _ _ _ _ _
    | exact ih1 _ _ _ _ _ _ _ _ _
    | exact ih2 _ _ _ _ _ _ _
    | exact ih3 _ _ _ _ _ _ _
    | exact ih4 _ _ _ _ _ _
    | exact pat_Right.mono _ _ _ _
    | exact pat_twin.mono _ _ _ _
    | exact LeO.none _
    | refine LeO.ite ?_ ?_
    | refine LeO.bind ?_ (fun _ => ?_)
  · intro y0 y1 y2 y3 y4 y5 y6
    unfold pat_Times.l1
    repeat' first
    | (with_reducible exact ih0 _ _ _ _ _)
    | (with_reducible exact ih1 _ _ _ _ _ _ _ _ _)
    | (with_reducible exact ih2 _ _ _ _ _ _ _)
    | (with_reducible exact ih3 _ _ _ _ _ _ _)
    | (with_reducible exact ih4 _ _ _ _ _ _)
    | (with_reducible exact pat_Right.mono _ _ _ _)
    | (with_reducible exact pat_twin.mono _ _ _ _)
    | (with_reducible exact LeO.refl _)
    | (with_reducible exact LeO.none _)
    | (with_reducible refine LeO.ite ?_ ?_)
    | (with_reducible refine LeO.bind ?_ (fun _ => ?_))
    | exact ih0 _ _ _ _ _
    | exact ih1 _ _ _ _ _ _ _ _ _
    | exact ih2 _ _ _ _ _ _ _
    | exact ih3 _ _ _ _ _ _ _
    | exact ih4 _ _ _ _ _ _
    | exact pat_Right.mono _ _ _ _
    | exact pat_twin.mono _ _ _ _
    | exact LeO.none _
    | refine LeO.ite ?_ ?_
    | refine LeO.bind ?_ (fun _ => ?_)
  · intro y0 y1 y2 y3 y4 y5
    unfold pat_Times.j0
    repeat' first
    | (with_reducible exact ih0 _ _ _ _ _)
    | (with_reducible exact ih1 _ _ _ _ _ _ _ _ _)
    | (with_reducible exact ih2 _ _ _ _ _ _ _)
    | (with_reducible exact ih3 _ _ _ _ _ _ _)
    | (with_reducible exact ih4 _ _ _ _ _ _)
    | (with_reducible exact pat_Right.mono _ _ _ _)
    | (with_reducible exact pat_twin.mono _ _ _ _)
    | (with_reducible exact LeO.refl _)
    | (with_reducible exact LeO.none _)
    | (with_reducible refine LeO.ite ?_ ?_)
    | (with_reducible refine LeO.bind ?_ (fun _ => ?_))
    | exact ih0 _ _ _ _ _
    | exact ih1 _ _ _ _ _ _ _ _ _
    | exact ih2 _ _ _ _ _ _ _
    | exact ih3 _ _ _ _ _ _ _
    | exact ih4 _ _ _ _ _ _
    | exact pat_Right.mono _ _ _ _
    | exact pat_twin.mono _ _ _ _
    | exact LeO.none _
    | refine LeO.ite ?_ ?_
    | refine LeO.bind ?_ (fun _ => ?_)
theorem pat_Times.mono : ∀ a0 a1 a2 a3 a4 k, LeO (pat_Times.f k a0 a1 a2 a3 a4) (pat_Times.f (k + 1) a0 a1 a2 a3 a4) := by
 intro a0 a1 a2 a3 a4 k
 obtain ⟨ih0, ih1, ih2, ih3, ih4⟩ := pat_Times.mono_l k
 unfold pat_Times.f
 repeat' first
  | (with_reducible exact ih0 _ _ _ _ _)
  | (with_reducible exact ih1 _ _ _ _ _ _ _ _ _)
  | (with_reducible exact ih2 _ _ _ _ _ _ _)
  | (with_reducible exact ih3 _ _ _ _ _ _ _)
  | (with_reducible exact ih4 _ _ _ _ _ _)
  | (with_reducible exact pat_Right.mono _ _ _ _)
  | (with_reducible exact pat_twin.mono _ _ _ _)
  | (with_reducible exact LeO.refl _)
  | (with_reducible exact LeO.none _)
  | (with_reducible refine LeO.ite ?_ ?_)
  | (with_reducible refine LeO.bind ?_ (fun _ => ?_))
  | exact ih0 _ _ _ _ _
  | exact ih1 _ _ _ _ _ _ _ _ _
  | exact ih2 _ _ _ _ _ _ _
  | exact ih3 _ _ _ _ _ _ _
  | exact ih4 _ _ _ _ _ _
  | exact pat_Right.mono _ _ _ _
  | exact pat_twin.mono _ _ _ _
  | exact LeO.none _
  | refine LeO.ite ?_ ?_
  | refine LeO.bind ?_ (fun _ => ?_)
def pat_Times.T12 : Bool × List (List Nat × List Nat) := (true, [([], []), ([0], [0]), ([], []), ([2], [2]), ([3], [3]), ([1, 4, 3], [1, 4]), ([0, 1, 2, 3, 4, 5], []), ([6, 5, 5, 0, 1, 2, 3, 4, 5], [5, 6])])
def pat_Times.B12 : List Nat := [0, 1, 0, 4, 12, 31, 63, 127]
theorem pat_Times.tab12 : rtab .any (opsOf Try.f25 12) = pat_Times.T12 := by kernel_rfl
theorem pat_Times.bits12 : waitsOk pat_Times.T12.2 pat_Times.B12 = true := by kernel_rfl
def pat_Times.T15 : Bool × List (List Nat × List Nat) := (true, [([], []), ([0], [0]), ([], []), ([2], [2]), ([3], [3]), ([4], [4]), ([5], [5]), ([1, 6, 3], [1, 6]), ([0, 1, 2, 3, 4, 5, 6, 7], []), ([8, 7, 7, 0, 1, 2, 3, 4, 5, 6, 7], [7, 8])])
def pat_Times.B15 : List Nat := [0, 1, 0, 4, 12, 28, 60, 127, 255, 511]
theorem pat_Times.tab15 : rtab .any (opsOf Try.f25 15) = pat_Times.T15 := by kernel_rfl
theorem pat_Times.bits15 : waitsOk pat_Times.T15.2 pat_Times.B15 = true := by kernel_rfl
def pat_Times.T18 : Bool × List (List Nat × List Nat) := (true, [([], []), ([0], [0]), ([], []), ([2], [2]), ([], []), ([3, 4], [3, 4]), ([5], [5]), ([6], [6]), ([1, 7, 3], [1, 7]), ([0, 1, 2, 3, 4, 5, 6, 7, 8], []), ([9, 8, 8, 0, 1, 2, 3, 4, 5, 6, 7, 8], [8, 9])])
def pat_Times.B18 : List Nat := [0, 1, 0, 4, 0, 28, 60, 124, 255, 511, 1023]
theorem pat_Times.tab18 : rtab .any (opsOf Try.f25 18) = pat_Times.T18 := by kernel_rfl
theorem pat_Times.bits18 : waitsOk pat_Times.T18.2 pat_Times.B18 = true := by kernel_rfl
set_option maxHeartbeats 8000000 in
set_option maxRecDepth 100000 in
theorem pat_Times.calls (k : Nat) (a0_0 : Int) (A0_1 : Option Addr) (c0_1 : Nat) (l0_1 : List (S66)) (A0_2 : Option Addr) (c0_2 : Nat) (l0_2 : List (S25)) (a1 : Int) (a2 : Int) (r1 : Int) (r2 : List (S66)) (r3 : List (S25)) (r4 : Int) (w : World) (hr0_1 : Kd.C k66 w A0_1 l0_1.length l0_1) (hc0_1 : l0_1.length ≤ c0_1) (hr0_2 : Kd.C k25 w A0_2 l0_2.length l0_2) (hc0_2 : l0_2.length ≤ c0_2) (h : pat_Times.f k a0_0 l0_1 l0_2 a1 a2 = some (r1, r2, r3, r4)) :
 Calls Try.prog 25 #[.agg #[.int .i64 a0_0, .slice A0_1 l0_1.length c0_1, .slice A0_2 l0_2.length c0_2], .int .i64 a1, .int .i64 a2] w fun e w' => ∃ v1_ v2_ : Value, e = .returned (.tuple #[.agg #[.int .i64 r1, v1_, v2_], .int .i64 r4]) ∧ Kd.R k66 66 w' w.heap.size (fun k_ => (w.heap.size ≤ k_)) v1_ r2 ∧ Kd.N k25 25 w' w.heap.size (fun k_ => (w.heap.size ≤ k_) ∧ some k_ ≠ (v1_ : Value).ownBlock) v2_ r3 ∧ Below w.heap.size w w' := by
 have hu25 := Try.underlying25
 have HR0_1 := aM hr0_1
 have HC0_1 := aM hc0_1
 clear hr0_1 hc0_1
 have HR0_2 := aM hr0_2
 have HC0_2 := aM hc0_2
 clear hr0_2 hc0_2
 have HB := aM (Below.refl w.heap.size w)
 have H : (if a1 < 0 then (some (0, ([] : List (S66)), ([] : List (S25)), 2)) else ((pat_Right.f k a0_0 l0_1 l0_2).bind fun t181 => (if t181 = true then (if a2 ≥ 0 then (pat_Times.j0 k a1 a2 (decide (a2 < a1)) a0_0 l0_1 l0_2) else (pat_Times.j0 k a1 a2 false a0_0 l0_1 l0_2)) else (some (0, ([] : List (S66)), ([] : List (S25)), 4))))) = some (r1, r2, r3, r4) := h
 clear h
 have HC4 := aM H
 clear H
 go_enter Try.func25, Try.ntmps25
 go_upto_block 0 with (first | ((with_reducible refine gate_dst (N := 3) rfl ?_); refine box_event ?hg (N := 3) ?hd (cs := #[.int .i64 a0_0, .slice A0_1 l0_1.length c0_1, .slice A0_2 l0_2.length c0_2]) (t := 25) ?hr ?_; (case hd => rfl); (case hg => rfl); (case hr => first | (go_simp; done) | (go_simp; rfl)); intro gb179 hg w5 hbox hb; have n0_ := aM (below_step (by repeat (first | (with_reducible first | exact HB.out | apply blA | apply blN | apply blD) | exact HB.out)) hb); have n1_ := aM (hbox); have n2_ := aM ((by rw [hg]; exact (below_size (by repeat (first | (with_reducible first | exact HB.out | apply blA | apply blN | apply blD) | exact HB.out))) : w.heap.size ≤ gb179)); have n3_ := aM ((by rw [hg]; exact (below_size (by repeat (first | (with_reducible first | exact HB.out | apply blA | apply blN | apply blD) | exact HB.out))) : w.heap.size ≤ gb179)); clear HB; have HB := n0_; have BK179 := n1_; have GW179 := n2_; have GE179 := n3_; clear n0_ n1_ n2_ n3_; clear hb hbox hg) | ((with_reducible refine gate_dst (N := 6) rfl ?_); refine box_event ?hg (N := 6) ?hd (cs := #[.int .i64 0, .slice none 0 0, .slice none 0 0]) (t := 25) ?hr ?_; (case hd => rfl); (case hg => rfl); (case hr => first | (go_simp; done) | (go_simp; rfl)); intro gb180 hg w6 hbox hb; have n0_ := aM (blk_below (g := gb179) (o := .cells #[.int .i64 a0_0, .slice A0_1 l0_1.length c0_1, .slice A0_2 l0_2.length c0_2] 25 (0, 0)) (by (with_reducible repeat (first | apply bkN | apply bkD | apply bkA)); exact BK179.out) hb); have n1_ := aM (below_step (by repeat (first | (with_reducible first | exact HB.out | apply blA | apply blN | apply blD | refine bS ?_ GE179.out) | exact HB.out)) hb); have n2_ := aM (hbox); have n3_ := aM ((by rw [hg]; exact (below_size (by repeat (first | (with_reducible first | exact HB.out | apply blA | apply blN | apply blD | refine bS ?_ GE179.out) | exact HB.out))) : w.heap.size ≤ gb180)); have n4_ := aM ((by rw [hg]; exact (below_size (by repeat (first | (with_reducible first | exact HB.out | apply blA | apply blN | apply blD | refine bS ?_ GE179.out) | exact HB.out))) : w.heap.size ≤ gb180)); have n5_ := aM ((by rw [hg]; exact Nat.ne_of_lt (blk_lt (g := gb179) (o := .cells #[.int .i64 a0_0, .slice A0_1 l0_1.length c0_1, .slice A0_2 l0_2.length c0_2] 25 (0, 0)) (by (with_reducible repeat (first | apply bkN | apply bkD | apply bkA)); exact BK179.out)) : gb179 ≠ gb180)); have n6_ := aM ((by rw [hg]; exact Nat.ne_of_gt (blk_lt (g := gb179) (o := .cells #[.int .i64 a0_0, .slice A0_1 l0_1.length c0_1, .slice A0_2 l0_2.length c0_2] 25 (0, 0)) (by (with_reducible repeat (first | apply bkN | apply bkD | apply bkA)); exact BK179.out)) : gb180 ≠ gb179)); clear BK179; clear HB; have BK179 := n0_; have HB := n1_; have BK180 := n2_; have GW180 := n3_; have GE180 := n4_; have NB179_180 := n5_; have NB180_179 := n6_; clear n0_ n1_ n2_ n3_ n4_ n5_ n6_; clear hb hbox hg))
 (try simp only [Act.put, List.setIfInBounds_toArray, List.set_cons_zero, List.set_cons_succ])
 go_cut [] (fun wc => ∃ (kq : Nat) (x181000_3 : Int), Aside0 (pat_Times.j1 kq a1 a2 a0_0 l0_1 l0_2 = some (r1, r2, r3, r4)) ∧ Aside0 (kq ≤ k) ∧ Aside0 (wc.heap[gb179]? = some (.cells #[.int .i64 a0_0, (.slice A0_1 l0_1.length c0_1), (.slice A0_2 l0_2.length c0_2)] 25 (0, 0))) ∧ Aside0 (wc.heap[gb180]? = some (.cells #[.int .i64 x181000_3, (.slice none 0 0), (.slice none 0 0)] 25 (0, 0))) ∧ Aside0 (Below w.heap.size w wc))
 case first =>
  have H := HC4.out
  clear HC4
  by_cases c7 : a1 < 0
  · rw [if_pos c7] at H
    have c7b0 : decide (a1 < 0) = true := decide_eq_true c7
    clear c7
    (first | rw [c7b0] | (simp only [i64_w, i32_w]; rw [c7b0]) | skip)
    simp only [Option.some.injEq, Prod.mk.injEq] at H
    obtain ⟨rfl, rfl, rfl, rfl⟩ := H
    have hnb8 := NB180_179.out
    have hnc8 := NB179_180.out
    have hcz9_0 : w6.cell? ⟨gb180, 0, none⟩ = some (.int .i64 0) := (blk_cell BK180.out 0).trans rfl
    have hcz9_1 : w6.cell? ⟨gb180, 1, none⟩ = some (.slice none 0 0) := (blk_cell BK180.out 1).trans rfl
    have hcz9_2 : w6.cell? ⟨gb180, 2, none⟩ = some (.slice none 0 0) := (blk_cell BK180.out 2).trans rfl
    have hfz9_0 := bF BK180.out 0
    have hfz9_1 := bF BK180.out 1
    have hfz9_2 := bF BK180.out 2
    go_wp2
    refine bodyPost_ret (results_ct rfl _ _ gb180 25 #[.int .i64 0, .slice none 0 0, .slice none 0 0] (0, 0) _ rfl (by (with_reducible repeat (first | apply bkN | apply bkD | apply bkA)); refine blk_put (cs := #[.int .i64 0, .slice none 0 0, .slice none 0 0]) ?_ 2 _ rfl; (with_reducible repeat (first | apply bkN | apply bkD | apply bkA)); refine blk_put (cs := #[.int .i64 0, .slice none 0 0, .slice none 0 0]) ?_ 1 _ rfl; (with_reducible repeat (first | apply bkN | apply bkD | apply bkA)); refine blk_put (cs := #[.int .i64 0, .slice none 0 0, .slice none 0 0]) ?_ 0 _ rfl; (with_reducible repeat (first | apply bkN | apply bkD | apply bkA)); exact BK180.out) Try.underlying25 rfl (by kernel_rfl)) rfl ?_
    exact ⟨_, _, by first | rfl | (simp [errW_none, errW_some] <;> rfl) | (simp [*, errW_none, errW_some] <;> rfl), by first | exact Kd.R_nil _ _ _ _ _ | exact Kd.N_nil _ _ _ _ _ | exact Kd.V_nil _ _ _ _ _ | exact Kd.Q_nil _ _ _ _ _ | exact Kd.S_nil _ _ _ _ _, by first | exact Kd.R_nil _ _ _ _ _ | exact Kd.N_nil _ _ _ _ _ | exact Kd.V_nil _ _ _ _ _ | exact Kd.Q_nil _ _ _ _ _ | exact Kd.S_nil _ _ _ _ _, by repeat (first | (with_reducible first | exact HB.out | apply blA | apply blN | apply blD | refine bS ?_ GE179.out | refine bS ?_ GE180.out) | exact HB.out)⟩
  · rw [if_neg c7] at H
    have c7b0 : decide (a1 < 0) = false := decide_eq_false c7
    clear c7
    (first | rw [c7b0] | (simp only [i64_w, i32_w]; rw [c7b0]) | skip)
    replace H := Option.bind_eq_some_iff.mp H
    obtain ⟨t181, A100, H⟩ := H
    replace H : (if t181 = true then (if a2 ≥ 0 then (pat_Times.j0 k a1 a2 (decide (a2 < a1)) a0_0 l0_1 l0_2) else (pat_Times.j0 k a1 a2 false a0_0 l0_1 l0_2)) else (some (0, ([] : List (S66)), ([] : List (S25)), 4))) = some (r1, r2, r3, r4) := H
    have A10 := aM A100
    clear A100
    by_cases c11 : t181 = true
    · subst c11
      have H1 : (if a2 ≥ 0 then (pat_Times.j0 k a1 a2 (decide (a2 < a1)) a0_0 l0_1 l0_2) else (pat_Times.j0 k a1 a2 false a0_0 l0_1 l0_2)) = some (r1, r2, r3, r4) := by rw [if_pos rfl] at H; exact H
      clear H
      have H := H1
      clear H1
      have HC12 := aM H
      clear H
      have hnb13 := NB179_180.out
      have hnc13 := NB180_179.out
      have hcz14_0 : w6.cell? ⟨gb179, 0, none⟩ = some (.int .i64 a0_0) := (blk_cell BK179.out 0).trans rfl
      have hcz14_1 : w6.cell? ⟨gb179, 1, none⟩ = some (.slice A0_1 l0_1.length c0_1) := (blk_cell BK179.out 1).trans rfl
      have hcz14_2 : w6.cell? ⟨gb179, 2, none⟩ = some (.slice A0_2 l0_2.length c0_2) := (blk_cell BK179.out 2).trans rfl
      have hfz14_0 := bF BK179.out 0
      have hfz14_1 := bF BK179.out 1
      have hfz14_2 := bF BK179.out 2
      go_upto_region 5 with (first | ((with_reducible refine gate_callee (f := 16) rfl ?_); refine goesL_ (some 15) rfl rfl Try.func16 (by kernel_rfl) rfl #[.agg #[.int .i64 a0_0, .slice A0_1 l0_1.length c0_1, .slice A0_2 l0_2.length c0_2]] rfl (by (try simp only [List.map_toArray, List.map_cons, List.map_nil]); first | done | rfl | (simp only [List.length_drop, List.length_take]; rfl)) ?_; (with_reducible refine (pat_Right.calls k a0_0 _ _ l0_1 _ _ l0_2 true _ ?side1 ?side2 ?side3 ?side4 A10.out).mono ?_); (case side1 => repeat (first | exact (Kd.C_below HR0_1.out HB.out) | (with_reducible refine Kd.C_alloc ?_ _) | (with_reducible refine Kd.C_drewN ?_ _) | (with_reducible refine Kd.C_drew ?_))); (case side2 => exact HC0_1.out); (case side3 => repeat (first | exact (Kd.C_below HR0_2.out HB.out) | (with_reducible refine Kd.C_alloc ?_ _) | (with_reducible refine Kd.C_drewN ?_ _) | (with_reducible refine Kd.C_drew ?_))); (case side4 => exact HC0_2.out); rintro e w15 ⟨rfl, hb⟩; refine ⟨_, rfl, ?_⟩; have n0_ := aM (blk_below (g := gb179) (o := .cells #[.int .i64 a0_0, .slice A0_1 l0_1.length c0_1, .slice A0_2 l0_2.length c0_2] 25 (0, 0)) (by (with_reducible repeat (first | apply bkN | apply bkD | apply bkA)); exact BK179.out) hb); have n1_ := aM (blk_below (g := gb180) (o := .cells #[.int .i64 0, .slice none 0 0, .slice none 0 0] 25 (0, 0)) (by (with_reducible repeat (first | apply bkN | apply bkD | apply bkA)); exact BK180.out) hb); have n2_ := aM (below_step (by repeat (first | (with_reducible first | exact HB.out | apply blA | apply blN | apply blD | refine bS ?_ GE179.out | refine bS ?_ GE180.out) | exact HB.out)) hb); clear BK179; clear BK180; clear HB; have BK179 := n0_; have BK180 := n1_; have HB := n2_; clear n0_ n1_ n2_; (try clear hb); (try clear hb2); (try clear hk); (try clear hi)))
      (try simp only [Act.put, List.setIfInBounds_toArray, List.set_cons_zero, List.set_cons_succ])
      go_cut [18] (fun v18 wc => ∃ (kq : Nat) (x18_11 : Bool), v18 = .bool x18_11 ∧ Aside0 (pat_Times.j0 kq a1 a2 x18_11 a0_0 l0_1 l0_2 = some (r1, r2, r3, r4)) ∧ Aside0 (kq ≤ k) ∧ Aside0 (wc.heap[gb179]? = some (.cells #[.int .i64 a0_0, (.slice A0_1 l0_1.length c0_1), (.slice A0_2 l0_2.length c0_2)] 25 (0, 0))) ∧ Aside0 (wc.heap[gb180]? = some (.cells #[.int .i64 0, (.slice none 0 0), (.slice none 0 0)] 25 (0, 0))) ∧ Aside0 (Below w.heap.size w wc))
      case first =>
       have H := HC12.out
       clear HC12
       by_cases c16 : a2 ≥ 0
       · rw [if_pos c16] at H
         have c16b0 : decide (0 ≤ a2) = true := decide_eq_true c16
         clear c16
         (first | rw [c16b0] | (simp only [i64_w, i32_w]; rw [c16b0]) | skip)
         have H' := aM H
         clear H
         go_wp2
         go_meet
         case rel => exact ⟨_, (decide (a2 < a1)), (by first | rfl | (simp; done) | (simp [*]; done)), H', ⟨by first | omega | exact Nat.le_refl _⟩, ⟨by (with_reducible repeat (first | apply bkN | apply bkD | apply bkA)); exact BK179.out⟩, ⟨by (with_reducible repeat (first | apply bkN | apply bkD | apply bkA)); exact BK180.out⟩, ⟨by repeat (first | (with_reducible first | exact HB.out | apply blA | apply blN | apply blD | refine bS ?_ GE179.out | refine bS ?_ GE180.out) | exact HB.out)⟩⟩
       · rw [if_neg c16] at H
         have c16b0 : decide (0 ≤ a2) = false := decide_eq_false c16
         clear c16
         (first | rw [c16b0] | (simp only [i64_w, i32_w]; rw [c16b0]) | skip)
         have H' := aM H
         clear H
         go_wp2
         go_meet
         case rel => exact ⟨_, (false), (by first | rfl | (simp; done) | (simp [*]; done)), H', ⟨by first | omega | exact Nat.le_refl _⟩, ⟨by (with_reducible repeat (first | apply bkN | apply bkD | apply bkA)); exact BK179.out⟩, ⟨by (with_reducible repeat (first | apply bkN | apply bkD | apply bkA)); exact BK180.out⟩, ⟨by repeat (first | (with_reducible first | exact HB.out | apply blA | apply blN | apply blD | refine bS ?_ GE179.out | refine bS ?_ GE180.out) | exact HB.out)⟩⟩
      case rest =>
       clear HC12
       obtain ⟨kq, x18_11, rfl, HA, HJ11, BK179, BK180, HB⟩ := hcut
       cases kq with
       | zero => exact absurd HA.out (by simp [pat_Times.j0])
       | succ kj11 =>
        have H := HA.out
        clear HA
        simp only [pat_Times.j0] at H
        by_cases c17 : x18_11 = true
        · subst c17
          have H1 : (some (0, ([] : List (S66)), ([] : List (S25)), 2)) = some (r1, r2, r3, r4) := by rw [if_pos rfl] at H; exact H
          clear H
          have H := H1
          clear H1
          simp only [Option.some.injEq, Prod.mk.injEq] at H
          obtain ⟨rfl, rfl, rfl, rfl⟩ := H
          have hnb18 := NB180_179.out
          have hnc18 := NB179_180.out
          have hcz19_0 : wc.cell? ⟨gb180, 0, none⟩ = some (.int .i64 0) := (blk_cell BK180.out 0).trans rfl
          have hcz19_1 : wc.cell? ⟨gb180, 1, none⟩ = some (.slice none 0 0) := (blk_cell BK180.out 1).trans rfl
          have hcz19_2 : wc.cell? ⟨gb180, 2, none⟩ = some (.slice none 0 0) := (blk_cell BK180.out 2).trans rfl
          have hfz19_0 := bF BK180.out 0
          have hfz19_1 := bF BK180.out 1
          have hfz19_2 := bF BK180.out 2
          go_wp2
          refine bodyPost_ret (results_ct rfl _ _ gb180 25 #[.int .i64 0, .slice none 0 0, .slice none 0 0] (0, 0) _ rfl (by (with_reducible repeat (first | apply bkN | apply bkD | apply bkA)); refine blk_put (cs := #[.int .i64 0, .slice none 0 0, .slice none 0 0]) ?_ 2 _ rfl; (with_reducible repeat (first | apply bkN | apply bkD | apply bkA)); refine blk_put (cs := #[.int .i64 0, .slice none 0 0, .slice none 0 0]) ?_ 1 _ rfl; (with_reducible repeat (first | apply bkN | apply bkD | apply bkA)); refine blk_put (cs := #[.int .i64 0, .slice none 0 0, .slice none 0 0]) ?_ 0 _ rfl; (with_reducible repeat (first | apply bkN | apply bkD | apply bkA)); exact BK180.out) Try.underlying25 rfl (by kernel_rfl)) rfl ?_
          exact ⟨_, _, by first | rfl | (simp [errW_none, errW_some] <;> rfl) | (simp [*, errW_none, errW_some] <;> rfl), by first | exact Kd.R_nil _ _ _ _ _ | exact Kd.N_nil _ _ _ _ _ | exact Kd.V_nil _ _ _ _ _ | exact Kd.Q_nil _ _ _ _ _ | exact Kd.S_nil _ _ _ _ _, by first | exact Kd.R_nil _ _ _ _ _ | exact Kd.N_nil _ _ _ _ _ | exact Kd.V_nil _ _ _ _ _ | exact Kd.Q_nil _ _ _ _ _ | exact Kd.S_nil _ _ _ _ _, by repeat (first | (with_reducible first | exact HB.out | apply blA | apply blN | apply blD | refine bS ?_ GE179.out | refine bS ?_ GE180.out) | exact HB.out)⟩
        · replace c17 := Bool.eq_false_iff.mpr c17
          subst c17
          have H1 : (if a1 > 200 then (some (0, ([] : List (S66)), ([] : List (S25)), 6)) else (if a2 ≥ 0 then (if (wrap64 (a2 - a1)) > 200 then (some (0, ([] : List (S66)), ([] : List (S25)), 6)) else (pat_Times.j1 kj11 a1 a2 a0_0 l0_1 l0_2)) else (pat_Times.j1 kj11 a1 a2 a0_0 l0_1 l0_2))) = some (r1, r2, r3, r4) := by rw [if_neg (show ¬ (false = true) by decide)] at H; exact H
          clear H
          have H := H1
          clear H1
          by_cases c20 : a1 > 200
          · rw [if_pos c20] at H
            have c20b0 : decide (200 < a1) = true := decide_eq_true c20
            clear c20
            simp only [Option.some.injEq, Prod.mk.injEq] at H
            obtain ⟨rfl, rfl, rfl, rfl⟩ := H
            have hnb21 := NB180_179.out
            have hnc21 := NB179_180.out
            have hcz22_0 : wc.cell? ⟨gb180, 0, none⟩ = some (.int .i64 0) := (blk_cell BK180.out 0).trans rfl
            have hcz22_1 : wc.cell? ⟨gb180, 1, none⟩ = some (.slice none 0 0) := (blk_cell BK180.out 1).trans rfl
            have hcz22_2 : wc.cell? ⟨gb180, 2, none⟩ = some (.slice none 0 0) := (blk_cell BK180.out 2).trans rfl
            have hfz22_0 := bF BK180.out 0
            have hfz22_1 := bF BK180.out 1
            have hfz22_2 := bF BK180.out 2
            go_wp2
            refine bodyPost_ret (results_ct rfl _ _ gb180 25 #[.int .i64 0, .slice none 0 0, .slice none 0 0] (0, 0) _ rfl (by (with_reducible repeat (first | apply bkN | apply bkD | apply bkA)); refine blk_put (cs := #[.int .i64 0, .slice none 0 0, .slice none 0 0]) ?_ 2 _ rfl; (with_reducible repeat (first | apply bkN | apply bkD | apply bkA)); refine blk_put (cs := #[.int .i64 0, .slice none 0 0, .slice none 0 0]) ?_ 1 _ rfl; (with_reducible repeat (first | apply bkN | apply bkD | apply bkA)); refine blk_put (cs := #[.int .i64 0, .slice none 0 0, .slice none 0 0]) ?_ 0 _ rfl; (with_reducible repeat (first | apply bkN | apply bkD | apply bkA)); exact BK180.out) Try.underlying25 rfl (by kernel_rfl)) rfl ?_
            exact ⟨_, _, by first | rfl | (simp [errW_none, errW_some] <;> rfl) | (simp [*, errW_none, errW_some] <;> rfl), by first | exact Kd.R_nil _ _ _ _ _ | exact Kd.N_nil _ _ _ _ _ | exact Kd.V_nil _ _ _ _ _ | exact Kd.Q_nil _ _ _ _ _ | exact Kd.S_nil _ _ _ _ _, by first | exact Kd.R_nil _ _ _ _ _ | exact Kd.N_nil _ _ _ _ _ | exact Kd.V_nil _ _ _ _ _ | exact Kd.Q_nil _ _ _ _ _ | exact Kd.S_nil _ _ _ _ _, by repeat (first | (with_reducible first | exact HB.out | apply blA | apply blN | apply blD | refine bS ?_ GE179.out | refine bS ?_ GE180.out) | exact HB.out)⟩
          · rw [if_neg c20] at H
            have c20b0 : decide (200 < a1) = false := decide_eq_false c20
            clear c20
            by_cases c23 : a2 ≥ 0
            · rw [if_pos c23] at H
              have c23b0 : decide (0 ≤ a2) = true := decide_eq_true c23
              clear c23
              by_cases c24 : (wrap64 (a2 - a1)) > 200
              · rw [if_pos c24] at H
                have c24b0 : decide (200 < (wrap64 (a2 - a1))) = true := decide_eq_true c24
                clear c24
                simp only [Option.some.injEq, Prod.mk.injEq] at H
                obtain ⟨rfl, rfl, rfl, rfl⟩ := H
                have hnb25 := NB180_179.out
                have hnc25 := NB179_180.out
                have hcz26_0 : wc.cell? ⟨gb180, 0, none⟩ = some (.int .i64 0) := (blk_cell BK180.out 0).trans rfl
                have hcz26_1 : wc.cell? ⟨gb180, 1, none⟩ = some (.slice none 0 0) := (blk_cell BK180.out 1).trans rfl
                have hcz26_2 : wc.cell? ⟨gb180, 2, none⟩ = some (.slice none 0 0) := (blk_cell BK180.out 2).trans rfl
                have hfz26_0 := bF BK180.out 0
                have hfz26_1 := bF BK180.out 1
                have hfz26_2 := bF BK180.out 2
                go_wp2
                refine bodyPost_ret (results_ct rfl _ _ gb180 25 #[.int .i64 0, .slice none 0 0, .slice none 0 0] (0, 0) _ rfl (by (with_reducible repeat (first | apply bkN | apply bkD | apply bkA)); refine blk_put (cs := #[.int .i64 0, .slice none 0 0, .slice none 0 0]) ?_ 2 _ rfl; (with_reducible repeat (first | apply bkN | apply bkD | apply bkA)); refine blk_put (cs := #[.int .i64 0, .slice none 0 0, .slice none 0 0]) ?_ 1 _ rfl; (with_reducible repeat (first | apply bkN | apply bkD | apply bkA)); refine blk_put (cs := #[.int .i64 0, .slice none 0 0, .slice none 0 0]) ?_ 0 _ rfl; (with_reducible repeat (first | apply bkN | apply bkD | apply bkA)); exact BK180.out) Try.underlying25 rfl (by kernel_rfl)) rfl ?_
                exact ⟨_, _, by first | rfl | (simp [errW_none, errW_some] <;> rfl) | (simp [*, errW_none, errW_some] <;> rfl), by first | exact Kd.R_nil _ _ _ _ _ | exact Kd.N_nil _ _ _ _ _ | exact Kd.V_nil _ _ _ _ _ | exact Kd.Q_nil _ _ _ _ _ | exact Kd.S_nil _ _ _ _ _, by first | exact Kd.R_nil _ _ _ _ _ | exact Kd.N_nil _ _ _ _ _ | exact Kd.V_nil _ _ _ _ _ | exact Kd.Q_nil _ _ _ _ _ | exact Kd.S_nil _ _ _ _ _, by repeat (first | (with_reducible first | exact HB.out | apply blA | apply blN | apply blD | refine bS ?_ GE179.out | refine bS ?_ GE180.out) | exact HB.out)⟩
              · rw [if_neg c24] at H
                have c24b0 : decide (200 < (wrap64 (a2 - a1))) = false := decide_eq_false c24
                clear c24
                have H' := aM H
                clear H
                go_wp2
                go_meet
                case rel => exact ⟨_, (0), H', ⟨by have := HJ11.out; first | omega | exact Nat.le_refl _⟩, ⟨by (with_reducible repeat (first | apply bkN | apply bkD | apply bkA)); exact BK179.out⟩, ⟨by (with_reducible repeat (first | apply bkN | apply bkD | apply bkA)); exact BK180.out⟩, ⟨by repeat (first | (with_reducible first | exact HB.out | apply blA | apply blN | apply blD | refine bS ?_ GE179.out | refine bS ?_ GE180.out) | exact HB.out)⟩⟩
            · rw [if_neg c23] at H
              have c23b0 : decide (0 ≤ a2) = false := decide_eq_false c23
              clear c23
              have H' := aM H
              clear H
              go_wp2
              go_meet
              case rel => exact ⟨_, (0), H', ⟨by have := HJ11.out; first | omega | exact Nat.le_refl _⟩, ⟨by (with_reducible repeat (first | apply bkN | apply bkD | apply bkA)); exact BK179.out⟩, ⟨by (with_reducible repeat (first | apply bkN | apply bkD | apply bkA)); exact BK180.out⟩, ⟨by repeat (first | (with_reducible first | exact HB.out | apply blA | apply blN | apply blD | refine bS ?_ GE179.out | refine bS ?_ GE180.out) | exact HB.out)⟩⟩
    · replace c11 := Bool.eq_false_iff.mpr c11
      subst c11
      have H1 : (some (0, ([] : List (S66)), ([] : List (S25)), 4)) = some (r1, r2, r3, r4) := by rw [if_neg (show ¬ (false = true) by decide)] at H; exact H
      clear H
      have H := H1
      clear H1
      simp only [Option.some.injEq, Prod.mk.injEq] at H
      obtain ⟨rfl, rfl, rfl, rfl⟩ := H
      have hnb27 := NB179_180.out
      have hnc27 := NB180_179.out
      have hcz28_0 : w6.cell? ⟨gb179, 0, none⟩ = some (.int .i64 a0_0) := (blk_cell BK179.out 0).trans rfl
      have hcz28_1 : w6.cell? ⟨gb179, 1, none⟩ = some (.slice A0_1 l0_1.length c0_1) := (blk_cell BK179.out 1).trans rfl
      have hcz28_2 : w6.cell? ⟨gb179, 2, none⟩ = some (.slice A0_2 l0_2.length c0_2) := (blk_cell BK179.out 2).trans rfl
      have hfz28_0 := bF BK179.out 0
      have hfz28_1 := bF BK179.out 1
      have hfz28_2 := bF BK179.out 2
      go_wp2_with (first | ((with_reducible refine gate_callee (f := 16) rfl ?_); refine goesL_ (some 15) rfl rfl Try.func16 (by kernel_rfl) rfl #[.agg #[.int .i64 a0_0, .slice A0_1 l0_1.length c0_1, .slice A0_2 l0_2.length c0_2]] rfl (by (try simp only [List.map_toArray, List.map_cons, List.map_nil]); first | done | rfl | (simp only [List.length_drop, List.length_take]; rfl)) ?_; (with_reducible refine (pat_Right.calls k a0_0 _ _ l0_1 _ _ l0_2 false _ ?side1 ?side2 ?side3 ?side4 A10.out).mono ?_); (case side1 => repeat (first | exact (Kd.C_below HR0_1.out HB.out) | (with_reducible refine Kd.C_alloc ?_ _) | (with_reducible refine Kd.C_drewN ?_ _) | (with_reducible refine Kd.C_drew ?_))); (case side2 => exact HC0_1.out); (case side3 => repeat (first | exact (Kd.C_below HR0_2.out HB.out) | (with_reducible refine Kd.C_alloc ?_ _) | (with_reducible refine Kd.C_drewN ?_ _) | (with_reducible refine Kd.C_drew ?_))); (case side4 => exact HC0_2.out); rintro e w29 ⟨rfl, hb⟩; refine ⟨_, rfl, ?_⟩; have n0_ := aM (blk_below (g := gb179) (o := .cells #[.int .i64 a0_0, .slice A0_1 l0_1.length c0_1, .slice A0_2 l0_2.length c0_2] 25 (0, 0)) (by (with_reducible repeat (first | apply bkN | apply bkD | apply bkA)); exact BK179.out) hb); have n1_ := aM (blk_below (g := gb180) (o := .cells #[.int .i64 0, .slice none 0 0, .slice none 0 0] 25 (0, 0)) (by (with_reducible repeat (first | apply bkN | apply bkD | apply bkA)); exact BK180.out) hb); have n2_ := aM (below_step (by repeat (first | (with_reducible first | exact HB.out | apply blA | apply blN | apply blD | refine bS ?_ GE179.out | refine bS ?_ GE180.out) | exact HB.out)) hb); clear BK179; clear BK180; clear HB; have BK179 := n0_; have BK180 := n1_; have HB := n2_; clear n0_ n1_ n2_; (try clear hb); (try clear hb2); (try clear hk); (try clear hi); have hcz30_0 : w29.cell? ⟨gb180, 0, none⟩ = some (.int .i64 0) := (blk_cell BK180.out 0).trans rfl; have hcz30_1 : w29.cell? ⟨gb180, 1, none⟩ = some (.slice none 0 0) := (blk_cell BK180.out 1).trans rfl; have hcz30_2 : w29.cell? ⟨gb180, 2, none⟩ = some (.slice none 0 0) := (blk_cell BK180.out 2).trans rfl; have hfz30_0 := bF BK180.out 0; have hfz30_1 := bF BK180.out 1; have hfz30_2 := bF BK180.out 2))
      refine bodyPost_ret (results_ct rfl _ _ gb180 25 #[.int .i64 0, .slice none 0 0, .slice none 0 0] (0, 0) _ rfl (by (with_reducible repeat (first | apply bkN | apply bkD | apply bkA)); refine blk_put (cs := #[.int .i64 0, .slice none 0 0, .slice none 0 0]) ?_ 2 _ rfl; (with_reducible repeat (first | apply bkN | apply bkD | apply bkA)); refine blk_put (cs := #[.int .i64 0, .slice none 0 0, .slice none 0 0]) ?_ 1 _ rfl; (with_reducible repeat (first | apply bkN | apply bkD | apply bkA)); refine blk_put (cs := #[.int .i64 0, .slice none 0 0, .slice none 0 0]) ?_ 0 _ rfl; (with_reducible repeat (first | apply bkN | apply bkD | apply bkA)); exact BK180.out) Try.underlying25 rfl (by kernel_rfl)) rfl ?_
      exact ⟨_, _, by first | rfl | (simp [errW_none, errW_some] <;> rfl) | (simp [*, errW_none, errW_some] <;> rfl), by first | exact Kd.R_nil _ _ _ _ _ | exact Kd.N_nil _ _ _ _ _ | exact Kd.V_nil _ _ _ _ _ | exact Kd.Q_nil _ _ _ _ _ | exact Kd.S_nil _ _ _ _ _, by first | exact Kd.R_nil _ _ _ _ _ | exact Kd.N_nil _ _ _ _ _ | exact Kd.V_nil _ _ _ _ _ | exact Kd.Q_nil _ _ _ _ _ | exact Kd.S_nil _ _ _ _ _, by repeat (first | (with_reducible first | exact HB.out | apply blA | apply blN | apply blD | refine bS ?_ GE179.out | refine bS ?_ GE180.out) | exact HB.out)⟩
 case rest =>
  clear HC4
  obtain ⟨kq, x181000_3, HA, HJ3, BK179, BK180, HB⟩ := hcut
  cases kq with
  | zero => exact absurd HA.out (by simp [pat_Times.j1])
  | succ kj3 =>
   have H := HA.out
   clear HA
   simp only [pat_Times.j1] at H
   have H' := aM H
   clear H
   go_wp2_with (first | ((with_reducible refine gate_dst (N := 8) rfl ?_); refine box_event ?hg (N := 8) ?hd (cs := #[.int .i64 0, .slice none 0 0, .slice none 0 0]) (t := 25) ?hr ?_; (case hd => rfl); (case hg => rfl); (case hr => first | (go_simp; done) | (go_simp; rfl)); intro gb182 hg w31 hbox hb; have n0_ := aM (blk_below (g := gb179) (o := .cells #[.int .i64 a0_0, .slice A0_1 l0_1.length c0_1, .slice A0_2 l0_2.length c0_2] 25 (0, 0)) (by (with_reducible repeat (first | apply bkN | apply bkD | apply bkA)); exact BK179.out) hb); have n1_ := aM (blk_below (g := gb180) (o := .cells #[.int .i64 x181000_3, .slice none 0 0, .slice none 0 0] 25 (0, 0)) (by (with_reducible repeat (first | apply bkN | apply bkD | apply bkA)); exact BK180.out) hb); have n2_ := aM (below_step (by repeat (first | (with_reducible first | exact HB.out | apply blA | apply blN | apply blD | refine bS ?_ GE179.out | refine bS ?_ GE180.out) | exact HB.out)) hb); have n3_ := aM (hbox); have n4_ := aM ((by rw [hg]; exact (below_size (by repeat (first | (with_reducible first | exact HB.out | apply blA | apply blN | apply blD | refine bS ?_ GE179.out | refine bS ?_ GE180.out) | exact HB.out))) : w.heap.size ≤ gb182)); have n5_ := aM ((by rw [hg]; exact (below_size (by repeat (first | (with_reducible first | exact HB.out | apply blA | apply blN | apply blD | refine bS ?_ GE179.out | refine bS ?_ GE180.out) | exact HB.out))) : w.heap.size ≤ gb182)); have n6_ := aM ((by rw [hg]; exact Nat.ne_of_lt (blk_lt (g := gb179) (o := .cells #[.int .i64 a0_0, .slice A0_1 l0_1.length c0_1, .slice A0_2 l0_2.length c0_2] 25 (0, 0)) (by (with_reducible repeat (first | apply bkN | apply bkD | apply bkA)); exact BK179.out)) : gb179 ≠ gb182)); have n7_ := aM ((by rw [hg]; exact Nat.ne_of_gt (blk_lt (g := gb179) (o := .cells #[.int .i64 a0_0, .slice A0_1 l0_1.length c0_1, .slice A0_2 l0_2.length c0_2] 25 (0, 0)) (by (with_reducible repeat (first | apply bkN | apply bkD | apply bkA)); exact BK179.out)) : gb182 ≠ gb179)); have n8_ := aM ((by rw [hg]; exact Nat.ne_of_lt (blk_lt (g := gb180) (o := .cells #[.int .i64 x181000_3, .slice none 0 0, .slice none 0 0] 25 (0, 0)) (by (with_reducible repeat (first | apply bkN | apply bkD | apply bkA)); exact BK180.out)) : gb180 ≠ gb182)); have n9_ := aM ((by rw [hg]; exact Nat.ne_of_gt (blk_lt (g := gb180) (o := .cells #[.int .i64 x181000_3, .slice none 0 0, .slice none 0 0] 25 (0, 0)) (by (with_reducible repeat (first | apply bkN | apply bkD | apply bkA)); exact BK180.out)) : gb182 ≠ gb180)); clear BK179; clear BK180; clear HB; have BK179 := n0_; have BK180 := n1_; have HB := n2_; have BK182 := n3_; have GW182 := n4_; have GE182 := n5_; have NB179_182 := n6_; have NB182_179 := n7_; have NB180_182 := n8_; have NB182_180 := n9_; clear n0_ n1_ n2_ n3_ n4_ n5_ n6_ n7_ n8_ n9_; clear hb hbox hg; have hnb32 := NB182_179.out; have hnc32 := NB179_182.out; have hnb33 := NB182_180.out; have hnc33 := NB180_182.out; have hcz34_0 : w31.cell? ⟨gb182, 0, none⟩ = some (.int .i64 0) := (blk_cell BK182.out 0).trans rfl; have hcz34_1 : w31.cell? ⟨gb182, 1, none⟩ = some (.slice none 0 0) := (blk_cell BK182.out 1).trans rfl; have hcz34_2 : w31.cell? ⟨gb182, 2, none⟩ = some (.slice none 0 0) := (blk_cell BK182.out 2).trans rfl; have hfz34_0 := bF BK182.out 0; have hfz34_1 := bF BK182.out 1; have hfz34_2 := bF BK182.out 2))
   go_loopg [43] kj3 (fun kq v43 w' => ∃ (x43_2 : Int) (x183002_2 : List (S25)) (u183002 : Value), v43 = .int .i64 x43_2 ∧ Aside0 (pat_Times.l0 kq a1 a2 a1 x43_2 a0_0 l0_1 l0_2 2 x183002_2 = some (r1, r2, r3, r4)) ∧ Aside0 (kq ≤ kj3) ∧ Aside0 (Kd.N k25 25 w' w.heap.size (fun k_ => (w.heap.size ≤ k_) ∧ k_ ≠ gb179 ∧ k_ ≠ gb180 ∧ k_ ≠ gb182) u183002 x183002_2) ∧ Aside0 (w'.heap[gb179]? = some (.cells #[.int .i64 a0_0, (.slice A0_1 l0_1.length c0_1), (.slice A0_2 l0_2.length c0_2)] 25 (0, 0))) ∧ Aside0 (w'.heap[gb180]? = some (.cells #[.int .i64 x181000_3, (.slice none 0 0), (.slice none 0 0)] 25 (0, 0))) ∧ Aside0 (w'.heap[gb182]? = some (.cells #[.int .i64 2, (.slice none 0 0), u183002] 25 (0, 0))) ∧ Aside0 (Below w.heap.size w w'))
   case atStart => exact ⟨(0), (([] : List (S25))), (.slice none 0 0), (by first | rfl | (simp; done) | (simp [*]; done)), H', ⟨Nat.le_refl _⟩, ⟨by first | exact Kd.R_nil _ _ _ _ _ | exact Kd.N_nil _ _ _ _ _ | exact Kd.V_nil _ _ _ _ _ | exact Kd.Q_nil _ _ _ _ _ | exact Kd.S_nil _ _ _ _ _⟩, ⟨by (with_reducible repeat (first | apply bkN | apply bkD | apply bkA)); refine blk_far ?_ NB179_182.out _; (with_reducible repeat (first | apply bkN | apply bkD | apply bkA)); refine blk_far ?_ NB179_182.out _; (with_reducible repeat (first | apply bkN | apply bkD | apply bkA)); refine blk_far ?_ NB179_182.out _; (with_reducible repeat (first | apply bkN | apply bkD | apply bkA)); exact BK179.out⟩, ⟨by (with_reducible repeat (first | apply bkN | apply bkD | apply bkA)); refine blk_far ?_ NB180_182.out _; (with_reducible repeat (first | apply bkN | apply bkD | apply bkA)); refine blk_far ?_ NB180_182.out _; (with_reducible repeat (first | apply bkN | apply bkD | apply bkA)); refine blk_far ?_ NB180_182.out _; (with_reducible repeat (first | apply bkN | apply bkD | apply bkA)); exact BK180.out⟩, ⟨by (with_reducible repeat (first | apply bkN | apply bkD | apply bkA)); refine blk_put (cs := #[.int .i64 2, .slice none 0 0, .slice none 0 0]) ?_ 2 _ rfl; (with_reducible repeat (first | apply bkN | apply bkD | apply bkA)); refine blk_put (cs := #[.int .i64 2, .slice none 0 0, .slice none 0 0]) ?_ 1 _ rfl; (with_reducible repeat (first | apply bkN | apply bkD | apply bkA)); refine blk_put (cs := #[.int .i64 0, .slice none 0 0, .slice none 0 0]) ?_ 0 _ rfl; (with_reducible repeat (first | apply bkN | apply bkD | apply bkA)); exact BK182.out⟩, ⟨by repeat (first | (with_reducible first | exact HB.out | apply blA | apply blN | apply blD | refine bS ?_ GE179.out | refine bS ?_ GE180.out | refine bS ?_ GE182.out) | exact HB.out)⟩⟩
   case round =>
    clear H'
    obtain ⟨x43_2, x183002_2, u183002, rfl, HA, HK2, HO_183002, BK179, BK180, BK182, HB⟩ := hrel
    cases gk with
    | zero => exact absurd HA.out (by simp [pat_Times.l0])
    | succ k2 =>
     have H := HA.out
     clear HA
     simp only [pat_Times.l0] at H
     by_cases c35 : x43_2 < a1
     · rw [if_pos c35] at H
       have c35b0 : decide (x43_2 < a1) = true := decide_eq_true c35
       clear c35
       replace H := Option.bind_eq_some_iff.mp H
       obtain ⟨⟨t183, t184, t187⟩, A360, H⟩ := H
       replace H : (if x183002_2.length < 2513169434916 then (pat_Times.l0 k2 a1 a2 a1 (wrap64 (x43_2 + 1)) a0_0 l0_1 l0_2 2 (x183002_2 ++ [(⟨t183, t184, t187⟩ : S25)])) else (none)) = some (r1, r2, r3, r4) := H
       have A36 := aM A360
       clear A360
       by_cases c37 : x183002_2.length < 2513169434916
       · rw [if_pos c37] at H
         have LMc37 := aM c37
         clear c37
         obtain ⟨y190, hy190⟩ : ∃ y_ : List (S25), y_ = (x183002_2 ++ [(⟨t183, t184, t187⟩ : S25)]) := ⟨_, rfl⟩
         replace H : (pat_Times.l0 k2 a1 a2 a1 (wrap64 (x43_2 + 1)) a0_0 l0_1 l0_2 2 y190) = some (r1, r2, r3, r4) := by first | (rw [hy190]; with_reducible exact H) | (have H2_ := (Option.bind_some _ _).symm.trans H; rw [hy190]; with_reducible exact H2_) | (have H2_ := (Option.bind_some _ _).symm.trans H; with_reducible exact H2_) | with_reducible exact H | (rw [hy190]; exact H) | exact H
         have Ny190 := aM hy190
         clear hy190
         have H' := aM H
         clear H
         try go_wp2
         have n0_ := aM (Kd.N_drew HO_183002.out)
         have n1_ := aM (blk_drew BK179.out)
         have n2_ := aM (blk_drew BK180.out)
         have n3_ := aM (blk_drew BK182.out)
         have n4_ := aM (below_drew1 HB.out)
         clear HO_183002
         clear BK179
         clear BK180
         clear BK182
         clear HB
         have HO_183002 := n0_
         have BK179 := n1_
         have BK180 := n2_
         have BK182 := n3_
         have HB := n4_
         clear n0_ n1_ n2_ n3_ n4_
         refine start_ (n := 8) (S := fun w' => w'.cell? ⟨gb182, 0, none⟩ = some (.int .i64 2) ∧ w'.cell? ⟨gb182, 1, none⟩ = some (.slice none 0 0) ∧ w'.cell? ⟨gb182, 2, none⟩ = some (u183002) ∧ w'.cell? ⟨gb179, 0, none⟩ = some (.int .i64 a0_0) ∧ w'.cell? ⟨gb179, 1, none⟩ = some (.slice A0_1 l0_1.length c0_1) ∧ w'.cell? ⟨gb179, 2, none⟩ = some (.slice A0_2 l0_2.length c0_2)) (ds := [7]) #[false, false, false, false, false, false, false, false] (by kernel_rfl) rfl rfl ⟨(blk_cell BK182.out 0).trans rfl, (blk_cell BK182.out 1).trans rfl, (blk_cell BK182.out 2).trans rfl, (blk_cell BK179.out 0).trans rfl, (blk_cell BK179.out 1).trans rfl, (blk_cell BK179.out 2).trans rfl⟩ (fun hHeld => ?_); refine with_tabW pat_Times.tab12 pat_Times.bits12 (fun HT_ HW_ => ?_)
         generalize wr.drew = w38 at HO_183002 BK179 BK180 BK182 HB hHeld ⊢
         refine pure_ (i := 0) (N := some 45) (v := ?_) (a' := ?_) #[true, false, false, false, false, false, false, false] rfl rfl (any_of HT_.out (by kernel_rfl)) (fun _ _ _ h => h) (Or.inl ⟨by rfl, ?_⟩) ?_ ?_
         rotate_left
         · intro w'
           go_simp
           with_reducible rfl
         rotate_left
         · simp only [Act.put, List.setIfInBounds_toArray, List.set_cons_zero, List.set_cons_succ, i64_w, i32_w]
           rfl
         refine take_ (i := 1) (N := some 46) (v := ?_) (a' := ?_) #[true, true, false, false, false, false, false, false] rfl rfl (take_ofW HT_.out HW_.out (by kernel_rfl)) (fun _ _ _ h => h) (Or.inl ⟨by rfl, ?_⟩) hHeld ?_ ?_
         rotate_left
         · rintro w' ⟨s0, s1, s2, s3, s4, s5⟩
           go_simp
           with_reducible rfl
         rotate_left
         · simp only [Act.put, List.setIfInBounds_toArray, List.set_cons_zero, List.set_cons_succ, i64_w, i32_w]
           rfl
         refine take_ (i := 2) (N := some 47) (v := ?_) (a' := ?_) #[true, true, true, false, false, false, false, false] rfl rfl (take_ofW HT_.out HW_.out (by kernel_rfl)) (fun _ _ _ h => h) (Or.inl ⟨by rfl, ?_⟩) hHeld ?_ ?_
         rotate_left
         · rintro w' ⟨s0, s1, s2, s3, s4, s5⟩
           go_simp
           with_reducible rfl
         rotate_left
         · simp only [Act.put, List.setIfInBounds_toArray, List.set_cons_zero, List.set_cons_succ, i64_w, i32_w]
           rfl
         refine one_ (i := 3) (N := some 48) #[true, true, true, true, false, false, false, false] rfl rfl (one_of HT_.out (by kernel_rfl)) (by decide) (fun K hK => ?_)
         refine goes_ Try.func50 (by kernel_rfl) rfl #[.agg #[.int .i64 a0_0, .slice A0_1 l0_1.length c0_1, .slice A0_2 l0_2.length c0_2]] (by rfl) rfl rfl (by (try simp only [List.map_toArray, List.map_cons, List.map_nil]); first | done | rfl | (simp only [List.length_drop, List.length_take]; rfl)) ?_
         with_reducible refine (pat_twin.calls k2 a0_0 _ _ l0_1 _ _ l0_2 t183 t184 t187 _ ?side1 ?side2 ?side3 ?side4 A36.out).mono ?_
         (case side1 => repeat (first | exact (Kd.C_below HR0_1.out HB.out) | (with_reducible refine Kd.C_alloc ?_ _) | (with_reducible refine Kd.C_drewN ?_ _) | (with_reducible refine Kd.C_drew ?_)))
         (case side2 => exact HC0_1.out)
         (case side3 => repeat (first | exact (Kd.C_below HR0_2.out HB.out) | (with_reducible refine Kd.C_alloc ?_ _) | (with_reducible refine Kd.C_drewN ?_ _) | (with_reducible refine Kd.C_drew ?_)))
         (case side4 => exact HC0_2.out)
         rintro e w39 ⟨v185, v188, rfl, ho0, ho1, hb⟩
         refine ⟨_, rfl, ?_⟩
         have n0_ := aM (Kd.N_mono (Kd.N_told (Kd.N_told (Kd.N_old (by (with_reducible repeat (first | apply Kd.N_alloc | apply Kd.N_drewN | apply Kd.N_drew)); exact HO_183002.out) hb) (Kd.R_base ho0)) (by first | exact Kd.N_base ho1 | exact Kd.R_base ho1)) (fun _ h_ => h_.1))
         have n1_ := aM (Kd.R_lower (Kd.R_newM (M := fun k_ => (w.heap.size ≤ k_)) ho0 (below_size (by repeat (first | (with_reducible first | exact HB.out | apply blA | apply blN | apply blD | refine bS ?_ GE179.out | refine bS ?_ GE180.out | refine bS ?_ GE182.out) | exact HB.out))) (fun k_ h_ => h_)) (below_size (by repeat (first | (with_reducible first | exact HB.out | apply blA | apply blN | apply blD | refine bS ?_ GE179.out | refine bS ?_ GE180.out | refine bS ?_ GE182.out) | exact HB.out))))
         have n2_ := aM (Kd.N_lower (Kd.N_mono (ok' := fun k_ => (w.heap.size ≤ k_) ∧ some k_ ≠ (v185 : Value).ownBlock ∧ some k_ ≠ (u183002 : Value).ownBlock ∧ k_ ≠ gb179 ∧ k_ ≠ gb180 ∧ k_ ≠ gb182) (Kd.R_N (Kd.R_bound ho1)) (fun k_ hk_ => ⟨(Nat.le_trans (below_size (by repeat (first | (with_reducible first | exact HB.out | apply blA | apply blN | apply blD | refine bS ?_ GE179.out | refine bS ?_ GE180.out | refine bS ?_ GE182.out) | exact HB.out))) hk_.2.1), hk_.1, (Kd.fresh' (Kd.N_lt (by (with_reducible repeat (first | apply Kd.N_alloc | apply Kd.N_drewN | apply Kd.N_drew)); exact HO_183002.out)) k_ hk_.2.1), (Kd.freshB (g := gb179) (o := .cells #[.int .i64 a0_0, .slice A0_1 l0_1.length c0_1, .slice A0_2 l0_2.length c0_2] 25 (0, 0)) (by (with_reducible repeat (first | apply bkN | apply bkD | apply bkA)); exact BK179.out) k_ hk_.2.1), (Kd.freshB (g := gb180) (o := .cells #[.int .i64 x181000_3, .slice none 0 0, .slice none 0 0] 25 (0, 0)) (by (with_reducible repeat (first | apply bkN | apply bkD | apply bkA)); exact BK180.out) k_ hk_.2.1), (Kd.freshB (g := gb182) (o := .cells #[.int .i64 2, .slice none 0 0, u183002] 25 (0, 0)) (by (with_reducible repeat (first | apply bkN | apply bkD | apply bkA)); exact BK182.out) k_ hk_.2.1)⟩)) (below_size (by repeat (first | (with_reducible first | exact HB.out | apply blA | apply blN | apply blD | refine bS ?_ GE179.out | refine bS ?_ GE180.out | refine bS ?_ GE182.out) | exact HB.out))))
         have n3_ := aM (blk_below (g := gb179) (o := .cells #[.int .i64 a0_0, .slice A0_1 l0_1.length c0_1, .slice A0_2 l0_2.length c0_2] 25 (0, 0)) (by (with_reducible repeat (first | apply bkN | apply bkD | apply bkA)); exact BK179.out) hb)
         have n4_ := aM (blk_below (g := gb180) (o := .cells #[.int .i64 x181000_3, .slice none 0 0, .slice none 0 0] 25 (0, 0)) (by (with_reducible repeat (first | apply bkN | apply bkD | apply bkA)); exact BK180.out) hb)
         have n5_ := aM (blk_below (g := gb182) (o := .cells #[.int .i64 2, .slice none 0 0, u183002] 25 (0, 0)) (by (with_reducible repeat (first | apply bkN | apply bkD | apply bkA)); exact BK182.out) hb)
         have n6_ := aM (below_step (by repeat (first | (with_reducible first | exact HB.out | apply blA | apply blN | apply blD | refine bS ?_ GE179.out | refine bS ?_ GE180.out | refine bS ?_ GE182.out) | exact HB.out)) hb)
         clear HO_183002
         clear BK179
         clear BK180
         clear BK182
         clear HB
         have HO_183002 := n0_
         have HO186 := n1_
         have HO189 := n2_
         have BK179 := n3_
         have BK180 := n4_
         have BK182 := n5_
         have HB := n6_
         clear n0_ n1_ n2_ n3_ n4_ n5_ n6_
         (try clear hb)
         (try clear hb2)
         (try clear hk)
         (try clear hi)
         (try clear ho0)
         (try clear ho1)
         obtain ⟨Ao41, co41, eo41⟩ := Kd.R_slice HO186.out
         (first | subst eo41 | (injection eo41 with f1_ f2_ f3_; have f4_ := f1_.symm; have f5_ := f3_.symm; clear f1_ f2_ f3_; subst f4_; subst f5_))
         obtain ⟨Ao42, co42, eo42⟩ := Kd.N_slice HO189.out
         (first | subst eo42 | (injection eo42 with f1_ f2_ f3_; have f4_ := f1_.symm; have f5_ := f3_.symm; clear f1_ f2_ f3_; subst f4_; subst f5_))
         refine hK.out _ _ ⟨(blk_cell BK182.out 0).trans rfl, (blk_cell BK182.out 1).trans rfl, (blk_cell BK182.out 2).trans rfl, (blk_cell BK179.out 0).trans rfl, (blk_cell BK179.out 1).trans rfl, (blk_cell BK179.out 2).trans rfl⟩ (fun hHeld => ?_)
         clear hK K
         refine norm_ (a' := ?_) ?_ ?_
         rotate_left
         · show Act.put _ (some 48) _ = _
           simp only [Act.put, List.setIfInBounds_toArray, List.set_cons_zero, List.set_cons_succ, i64_w, i32_w]
           rfl
         refine one_ (i := 4) (N := some 49) #[true, true, true, true, true, false, false, false] rfl rfl (one_of HT_.out (by kernel_rfl)) (by decide) (fun K hK => ?_)
         refine value_ (w1 := ?_) (v := ?_) (by rfl) rfl ?_ ?_
         rotate_left 2
         · go_simp
           constructor
           · rfl
           · rfl
         refine hK.out _ _ ⟨(blk_cell (blk_alloc BK182.out _) 0).trans rfl, (blk_cell (blk_alloc BK182.out _) 1).trans rfl, (blk_cell (blk_alloc BK182.out _) 2).trans rfl, (blk_cell (blk_alloc BK179.out _) 0).trans rfl, (blk_cell (blk_alloc BK179.out _) 1).trans rfl, (blk_cell (blk_alloc BK179.out _) 2).trans rfl⟩ (fun hHeld => ?_)
         clear hK K
         refine norm_ (a' := ?_) ?_ ?_
         rotate_left
         · show Act.put _ (some 49) _ = _
           simp only [Act.put, List.setIfInBounds_toArray, List.set_cons_zero, List.set_cons_succ, i64_w, i32_w]
           rfl
         refine one_ (i := 5) (N := some 50) #[true, true, true, true, true, true, false, false] rfl rfl (one_of HT_.out (by kernel_rfl)) (by decide) (fun K hK => ?_)
         refine Kd.N_append_step k25 (w0 := w) w.heap.size (by rfl) (.tmp 46) (.tmp 49) 23 25 (.agg #[(.int .i64 0), (.slice none 0 0), (.slice none 0 0)]) 56 rfl Try.underlying23 info25 rfl (by decide) (by omega) u183002 x183002_2 (⟨t183, t184, t187⟩ : S25) [.int .i64 t183, .slice Ao41 t184.length co41, .slice Ao42 t187.length co42] (fun k_ => (w.heap.size ≤ k_) ∧ k_ ≠ gb179 ∧ k_ ≠ gb180 ∧ k_ ≠ gb182) (fun k_ => ((fun k_ => (w.heap.size ≤ k_) ∧ k_ ≠ gb179 ∧ k_ ≠ gb180 ∧ k_ ≠ gb182)) k_ ∧ some k_ ≠ (u183002 : Value).ownBlock) rfl rfl ?aP (fun _ hk => hk) ?aF ?aO ?aB ?aS ?aL ?_
         (case aP => exact (k25_mkF _ _ (⟨t183, t184, t187⟩ : S25) (Kd.R_reads' (Kd.R_mono (ok' := (fun k_ => ((fun k_ => (w.heap.size ≤ k_) ∧ k_ ≠ gb179 ∧ k_ ≠ gb180 ∧ k_ ≠ gb182)) k_ ∧ some k_ ≠ (u183002 : Value).ownBlock)) (Kd.R_types (Kd.R_types (Kd.R_types (Kd.R_apart' (HO186.out) (Kd.N_typed HO_183002.out) (by decide)) BK179.out (by decide)) BK180.out (by decide)) BK182.out (by decide)) (fun k_ hk => ⟨⟨hk.1.1.1.1.1, ⟨hk.1.1.2, ⟨hk.1.2, hk.2⟩⟩⟩, hk.1.1.1.2⟩))).2.1 (Kd.R_F (Kd.R_mono (ok' := (fun k_ => ((fun k_ => (w.heap.size ≤ k_) ∧ k_ ≠ gb179 ∧ k_ ≠ gb180 ∧ k_ ≠ gb182)) k_ ∧ some k_ ≠ (u183002 : Value).ownBlock)) (Kd.R_types (Kd.R_types (Kd.R_types (Kd.R_apart' (HO186.out) (Kd.N_typed HO_183002.out) (by decide)) BK179.out (by decide)) BK180.out (by decide)) BK182.out (by decide)) (fun k_ hk => ⟨⟨hk.1.1.1.1.1, ⟨hk.1.1.2, ⟨hk.1.2, hk.2⟩⟩⟩, hk.1.1.1.2⟩))) (Kd.N_reads' (Kd.N_mono (ok' := (fun k_ => ((fun k_ => (w.heap.size ≤ k_) ∧ k_ ≠ gb179 ∧ k_ ≠ gb180 ∧ k_ ≠ gb182)) k_ ∧ some k_ ≠ (u183002 : Value).ownBlock)) (HO189.out) (fun k_ hk => ⟨⟨hk.1, ⟨hk.2.2.2.1, ⟨hk.2.2.2.2.1, hk.2.2.2.2.2⟩⟩⟩, hk.2.2.1⟩))).2.1 (Kd.N_F (Kd.N_mono (ok' := (fun k_ => ((fun k_ => (w.heap.size ≤ k_) ∧ k_ ≠ gb179 ∧ k_ ≠ gb180 ∧ k_ ≠ gb182)) k_ ∧ some k_ ≠ (u183002 : Value).ownBlock)) (HO189.out) (fun k_ hk => ⟨⟨hk.1, ⟨hk.2.2.2.1, ⟨hk.2.2.2.2.1, hk.2.2.2.2.2⟩⟩⟩, hk.2.2.1⟩)))))
         (case aB => exact (by repeat (first | (with_reducible first | exact HB.out | apply blA | apply blN | apply blD | refine bS ?_ GE179.out | refine bS ?_ GE180.out | refine bS ?_ GE182.out) | exact HB.out)))
         (case aF => exact (fun k_ hk => ⟨(Nat.le_trans (below_size (by repeat (first | (with_reducible first | exact HB.out | apply blA | apply blN | apply blD | refine bS ?_ GE179.out | refine bS ?_ GE180.out | refine bS ?_ GE182.out) | exact HB.out))) hk), Kd.freshB (g := gb179) (o := .cells #[.int .i64 a0_0, .slice A0_1 l0_1.length c0_1, .slice A0_2 l0_2.length c0_2] 25 (0, 0)) (by (with_reducible repeat (first | apply bkN | apply bkD | apply bkA)); exact BK179.out) k_ hk, Kd.freshB (g := gb180) (o := .cells #[.int .i64 x181000_3, .slice none 0 0, .slice none 0 0] 25 (0, 0)) (by (with_reducible repeat (first | apply bkN | apply bkD | apply bkA)); exact BK180.out) k_ hk, Kd.freshB (g := gb182) (o := .cells #[.int .i64 2, .slice none 0 0, u183002] 25 (0, 0)) (by (with_reducible repeat (first | apply bkN | apply bkD | apply bkA)); exact BK182.out) k_ hk⟩))
         (case aO => exact (by (with_reducible repeat (first | apply Kd.N_alloc | apply Kd.N_drewN | apply Kd.N_drew)); exact Kd.N_mono HO_183002.out (fun _ hk => ⟨hk.1.1.1, ⟨hk.1.1.2.1, ⟨hk.1.1.2.2.1, hk.1.1.2.2.2⟩⟩⟩)))
         (case aS => exact (below_size (by repeat (first | (with_reducible first | exact HB.out | apply blA | apply blN | apply blD | refine bS ?_ GE179.out | refine bS ?_ GE180.out | refine bS ?_ GE182.out) | exact HB.out))))
         (case aL => have := LMc37.out; omega)
         intro v191 w40 ho hb hg hat
         rw [← Ny190.out] at ho
         have n0_ := aM (blk_grown (g := gb179) (o := .cells #[.int .i64 a0_0, .slice A0_1 l0_1.length c0_1, .slice A0_2 l0_2.length c0_2] 25 (0, 0)) (by (with_reducible repeat (first | apply bkN | apply bkD | apply bkA)); exact BK179.out) hg (Kd.N_away HO_183002.out (fun _ hk => hk.1.1.2.1)))
         have n1_ := aM (blk_grown (g := gb180) (o := .cells #[.int .i64 x181000_3, .slice none 0 0, .slice none 0 0] 25 (0, 0)) (by (with_reducible repeat (first | apply bkN | apply bkD | apply bkA)); exact BK180.out) hg (Kd.N_away HO_183002.out (fun _ hk => hk.1.1.2.2.1)))
         have n2_ := aM (blk_grown (g := gb182) (o := .cells #[.int .i64 2, .slice none 0 0, u183002] 25 (0, 0)) (by (with_reducible repeat (first | apply bkN | apply bkD | apply bkA)); exact BK182.out) hg (Kd.N_away HO_183002.out (fun _ hk => hk.1.1.2.2.2)))
         have n3_ := aM (hb)
         have n4_ := aM (ho)
         clear BK179
         clear BK180
         clear BK182
         clear HB
         clear HO_183002
         clear HO186
         clear HO189
         have BK179 := n0_
         have BK180 := n1_
         have BK182 := n2_
         have HB := n3_
         have HO192 := n4_
         clear n0_ n1_ n2_ n3_ n4_
         clear ho hb hg hat
         obtain ⟨Ao43, co43, eo43⟩ := Kd.N_slice HO192.out
         (first | subst eo43 | (injection eo43 with f1_ f2_ f3_; have f4_ := f1_.symm; have f5_ := f3_.symm; clear f1_ f2_ f3_; subst f4_; subst f5_))
         refine hK.out _ _ ⟨(blk_cell BK182.out 0).trans rfl, (blk_cell BK182.out 1).trans rfl, (blk_cell BK182.out 2).trans rfl, (blk_cell BK179.out 0).trans rfl, (blk_cell BK179.out 1).trans rfl, (blk_cell BK179.out 2).trans rfl⟩ (fun hHeld => ?_)
         clear hK K
         refine norm_ (a' := ?_) ?_ ?_
         rotate_left
         · show Act.put _ (some 50) _ = _
           simp only [Act.put, List.setIfInBounds_toArray, List.set_cons_zero, List.set_cons_succ, i64_w, i32_w]
           rfl
         refine pure_ (i := 6) (N := some 51) (v := ?_) (a' := ?_) #[true, true, true, true, true, true, true, false] rfl rfl (any_of HT_.out (by kernel_rfl)) (fun _ _ _ h => h) (Or.inl ⟨by rfl, ?_⟩) ?_ ?_
         rotate_left
         · intro w'
           go_simp
           with_reducible rfl
         rotate_left
         · simp only [Act.put, List.setIfInBounds_toArray, List.set_cons_zero, List.set_cons_succ, i64_w, i32_w]
           rfl
         refine last_ (i := 7) (N := none) #[true, true, true, true, true, true, true, true] rfl rfl (one_of HT_.out (by kernel_rfl)) (by decide) (fun K hK => ?_)
         have hs44 : w40.cell? ⟨gb182, 2, none⟩ = some (u183002) := (blk_cell BK182.out 2).trans rfl
         have hfs44 := bF BK182.out 2
         have hns44_0 := NB179_182.out
         have hns44_1 := NB180_182.out
         have hms44_0 := NB182_179.out
         have hms44_1 := NB182_180.out
         refine skip_ (w1 := ?_) (by rfl) rfl ?_ ?_
         rotate_left
         · go_simp
           rfl
         refine hK.out _ _ ?_
         clear hK K
         refine done_ (done_of HT_.out (by kernel_rfl)) ?_
         try go_wp2
         go_roundg k2
         case measure => have := HJ3.out; have := HK2.out; omega
         case rel => exact ⟨(wrap64 (x43_2 + 1)), (y190), (.slice Ao43 y190.length co43), (by first | rfl | (simp; done) | (simp [*]; done)), H', ⟨by have := HJ3.out; have := HK2.out; omega⟩, ⟨by (with_reducible repeat (first | apply Kd.N_alloc | apply Kd.N_drewN | apply Kd.N_drew)); exact Kd.N_mono (Kd.N_far (p := ⟨gb182, 2, none⟩) (Kd.N_mono HO192.out (fun k_ hk => (⟨hk, hk.2.2.2⟩ : _ ∧ k_ ≠ gb182))) (fun _ hk => hk.2) (.slice Ao43 y190.length co43)) (fun _ hk => ⟨hk.1.1, ⟨hk.1.2.1, ⟨hk.1.2.2.1, hk.1.2.2.2⟩⟩⟩)⟩, ⟨by (with_reducible repeat (first | apply bkN | apply bkD | apply bkA)); refine blk_far ?_ NB179_182.out _; (with_reducible repeat (first | apply bkN | apply bkD | apply bkA)); exact BK179.out⟩, ⟨by (with_reducible repeat (first | apply bkN | apply bkD | apply bkA)); refine blk_far ?_ NB180_182.out _; (with_reducible repeat (first | apply bkN | apply bkD | apply bkA)); exact BK180.out⟩, ⟨by (with_reducible repeat (first | apply bkN | apply bkD | apply bkA)); refine blk_put (cs := #[.int .i64 2, .slice none 0 0, u183002]) ?_ 2 _ rfl; (with_reducible repeat (first | apply bkN | apply bkD | apply bkA)); exact BK182.out⟩, ⟨by repeat (first | (with_reducible first | exact HB.out | apply blA | apply blN | apply blD | refine bS ?_ GE179.out | refine bS ?_ GE180.out | refine bS ?_ GE182.out) | exact HB.out)⟩⟩
       · rw [if_neg c37] at H
         exact absurd H (by simp)
     · rw [if_neg c35] at H
       have c35b0 : decide (x43_2 < a1) = false := decide_eq_false c35
       clear c35
       have HC45 := aM H
       clear H
       go_upto_if 54 with (fail)
       go_cut [] (fun wc => ∃ (kq : Nat) (x183002_44 : List (S25)) (u183002 : Value), Aside0 (pat_Times.j3 kq a1 a2 a0_0 l0_1 l0_2 2 x183002_44 = some (r1, r2, r3, r4)) ∧ Aside0 (kq ≤ k2) ∧ Aside0 (Kd.N k25 25 wc w.heap.size (fun k_ => (w.heap.size ≤ k_) ∧ k_ ≠ gb179 ∧ k_ ≠ gb180 ∧ k_ ≠ gb182) u183002 x183002_44) ∧ Aside0 (wc.heap[gb179]? = some (.cells #[.int .i64 a0_0, (.slice A0_1 l0_1.length c0_1), (.slice A0_2 l0_2.length c0_2)] 25 (0, 0))) ∧ Aside0 (wc.heap[gb180]? = some (.cells #[.int .i64 x181000_3, (.slice none 0 0), (.slice none 0 0)] 25 (0, 0))) ∧ Aside0 (wc.heap[gb182]? = some (.cells #[.int .i64 2, (.slice none 0 0), u183002] 25 (0, 0))) ∧ Aside0 (Below w.heap.size w wc))
       case first =>
        have H := HC45.out
        clear HC45
        by_cases c46 : a2 < 0
        · rw [if_pos c46] at H
          have c46b0 : decide (a2 < 0) = true := decide_eq_true c46
          clear c46
          (first | rw [c46b0] | (simp only [i64_w, i32_w]; rw [c46b0]) | skip)
          replace H := Option.bind_eq_some_iff.mp H
          obtain ⟨⟨t193, t194, t197⟩, A470, H⟩ := H
          replace H : (if x183002_2.length < 2513169434916 then (pat_Times.j3 k2 a1 a2 a0_0 l0_1 l0_2 2 (x183002_2 ++ [(⟨4, ([] : List (S66)), (([(⟨t193, t194, t197⟩ : S25)] : List (S25)))⟩ : S25)])) else (none)) = some (r1, r2, r3, r4) := H
          have A47 := aM A470
          clear A470
          obtain ⟨y200, hy200⟩ : ∃ y_ : List (S25), y_ = (([(⟨t193, t194, t197⟩ : S25)] : List (S25))) := ⟨_, rfl⟩
          replace H : (if x183002_2.length < 2513169434916 then (pat_Times.j3 k2 a1 a2 a0_0 l0_1 l0_2 2 (x183002_2 ++ [(⟨4, ([] : List (S66)), y200⟩ : S25)])) else (none)) = some (r1, r2, r3, r4) := by first | (rw [hy200]; with_reducible exact H) | (have H2_ := (Option.bind_some _ _).symm.trans H; rw [hy200]; with_reducible exact H2_) | (have H2_ := (Option.bind_some _ _).symm.trans H; with_reducible exact H2_) | with_reducible exact H | (rw [hy200]; exact H) | exact H
          have Ny200 := aM hy200
          clear hy200
          by_cases c48 : x183002_2.length < 2513169434916
          · rw [if_pos c48] at H
            have LMc48 := aM c48
            clear c48
            obtain ⟨y203, hy203⟩ : ∃ y_ : List (S25), y_ = (x183002_2 ++ [(⟨4, ([] : List (S66)), y200⟩ : S25)]) := ⟨_, rfl⟩
            replace H : (pat_Times.j3 k2 a1 a2 a0_0 l0_1 l0_2 2 y203) = some (r1, r2, r3, r4) := by first | (rw [hy203]; with_reducible exact H) | (have H2_ := (Option.bind_some _ _).symm.trans H; rw [hy203]; with_reducible exact H2_) | (have H2_ := (Option.bind_some _ _).symm.trans H; with_reducible exact H2_) | with_reducible exact H | (rw [hy203]; exact H) | exact H
            have Ny203 := aM hy203
            clear hy203
            have H' := aM H
            clear H
            try go_wp2
            have n0_ := aM (Kd.N_drew HO_183002.out)
            have n1_ := aM (blk_drew BK179.out)
            have n2_ := aM (blk_drew BK180.out)
            have n3_ := aM (blk_drew BK182.out)
            have n4_ := aM (below_drew1 HB.out)
            clear HO_183002
            clear BK179
            clear BK180
            clear BK182
            clear HB
            have HO_183002 := n0_
            have BK179 := n1_
            have BK180 := n2_
            have BK182 := n3_
            have HB := n4_
            clear n0_ n1_ n2_ n3_ n4_
            refine start_ (n := 10) (S := fun w' => w'.cell? ⟨gb182, 0, none⟩ = some (.int .i64 2) ∧ w'.cell? ⟨gb182, 1, none⟩ = some (.slice none 0 0) ∧ w'.cell? ⟨gb182, 2, none⟩ = some (u183002) ∧ w'.cell? ⟨gb179, 0, none⟩ = some (.int .i64 a0_0) ∧ w'.cell? ⟨gb179, 1, none⟩ = some (.slice A0_1 l0_1.length c0_1) ∧ w'.cell? ⟨gb179, 2, none⟩ = some (.slice A0_2 l0_2.length c0_2)) (ds := [9]) #[false, false, false, false, false, false, false, false, false, false] (by kernel_rfl) rfl rfl ⟨(blk_cell BK182.out 0).trans rfl, (blk_cell BK182.out 1).trans rfl, (blk_cell BK182.out 2).trans rfl, (blk_cell BK179.out 0).trans rfl, (blk_cell BK179.out 1).trans rfl, (blk_cell BK179.out 2).trans rfl⟩ (fun hHeld => ?_); refine with_tabW pat_Times.tab15 pat_Times.bits15 (fun HT_ HW_ => ?_)
            generalize wr.drew = w49 at HO_183002 BK179 BK180 BK182 HB hHeld ⊢
            refine pure_ (i := 0) (N := some 55) (v := ?_) (a' := ?_) #[true, false, false, false, false, false, false, false, false, false] rfl rfl (any_of HT_.out (by kernel_rfl)) (fun _ _ _ h => h) (Or.inl ⟨by rfl, ?_⟩) ?_ ?_
            rotate_left
            · intro w'
              go_simp
              with_reducible rfl
            rotate_left
            · simp only [Act.put, List.setIfInBounds_toArray, List.set_cons_zero, List.set_cons_succ, i64_w, i32_w]
              rfl
            refine take_ (i := 1) (N := some 56) (v := ?_) (a' := ?_) #[true, true, false, false, false, false, false, false, false, false] rfl rfl (take_ofW HT_.out HW_.out (by kernel_rfl)) (fun _ _ _ h => h) (Or.inl ⟨by rfl, ?_⟩) hHeld ?_ ?_
            rotate_left
            · rintro w' ⟨s0, s1, s2, s3, s4, s5⟩
              go_simp
              with_reducible rfl
            rotate_left
            · simp only [Act.put, List.setIfInBounds_toArray, List.set_cons_zero, List.set_cons_succ, i64_w, i32_w]
              rfl
            refine take_ (i := 2) (N := some 57) (v := ?_) (a' := ?_) #[true, true, true, false, false, false, false, false, false, false] rfl rfl (take_ofW HT_.out HW_.out (by kernel_rfl)) (fun _ _ _ h => h) (Or.inl ⟨by rfl, ?_⟩) hHeld ?_ ?_
            rotate_left
            · rintro w' ⟨s0, s1, s2, s3, s4, s5⟩
              go_simp
              with_reducible rfl
            rotate_left
            · simp only [Act.put, List.setIfInBounds_toArray, List.set_cons_zero, List.set_cons_succ, i64_w, i32_w]
              rfl
            refine one_ (i := 3) (N := some 58) #[true, true, true, true, false, false, false, false, false, false] rfl rfl (one_of HT_.out (by kernel_rfl)) (by decide) (fun K hK => ?_)
            refine goes_ Try.func50 (by kernel_rfl) rfl #[.agg #[.int .i64 a0_0, .slice A0_1 l0_1.length c0_1, .slice A0_2 l0_2.length c0_2]] (by rfl) rfl rfl (by (try simp only [List.map_toArray, List.map_cons, List.map_nil]); first | done | rfl | (simp only [List.length_drop, List.length_take]; rfl)) ?_
            with_reducible refine (pat_twin.calls k2 a0_0 _ _ l0_1 _ _ l0_2 t193 t194 t197 _ ?side1 ?side2 ?side3 ?side4 A47.out).mono ?_
            (case side1 => repeat (first | exact (Kd.C_below HR0_1.out HB.out) | (with_reducible refine Kd.C_alloc ?_ _) | (with_reducible refine Kd.C_drewN ?_ _) | (with_reducible refine Kd.C_drew ?_)))
            (case side2 => exact HC0_1.out)
            (case side3 => repeat (first | exact (Kd.C_below HR0_2.out HB.out) | (with_reducible refine Kd.C_alloc ?_ _) | (with_reducible refine Kd.C_drewN ?_ _) | (with_reducible refine Kd.C_drew ?_)))
            (case side4 => exact HC0_2.out)
            rintro e w50 ⟨v195, v198, rfl, ho0, ho1, hb⟩
            refine ⟨_, rfl, ?_⟩
            have n0_ := aM (Kd.N_mono (Kd.N_told (Kd.N_told (Kd.N_old (by (with_reducible repeat (first | apply Kd.N_alloc | apply Kd.N_drewN | apply Kd.N_drew)); exact HO_183002.out) hb) (Kd.R_base ho0)) (by first | exact Kd.N_base ho1 | exact Kd.R_base ho1)) (fun _ h_ => h_.1))
            have n1_ := aM (Kd.R_lower (Kd.R_newM (M := fun k_ => (w.heap.size ≤ k_)) ho0 (below_size (by repeat (first | (with_reducible first | exact HB.out | apply blA | apply blN | apply blD | refine bS ?_ GE179.out | refine bS ?_ GE180.out | refine bS ?_ GE182.out) | exact HB.out))) (fun k_ h_ => h_)) (below_size (by repeat (first | (with_reducible first | exact HB.out | apply blA | apply blN | apply blD | refine bS ?_ GE179.out | refine bS ?_ GE180.out | refine bS ?_ GE182.out) | exact HB.out))))
            have n2_ := aM (Kd.N_lower (Kd.N_mono (ok' := fun k_ => (w.heap.size ≤ k_) ∧ some k_ ≠ (v195 : Value).ownBlock ∧ some k_ ≠ (u183002 : Value).ownBlock ∧ k_ ≠ gb179 ∧ k_ ≠ gb180 ∧ k_ ≠ gb182) (Kd.R_N (Kd.R_bound ho1)) (fun k_ hk_ => ⟨(Nat.le_trans (below_size (by repeat (first | (with_reducible first | exact HB.out | apply blA | apply blN | apply blD | refine bS ?_ GE179.out | refine bS ?_ GE180.out | refine bS ?_ GE182.out) | exact HB.out))) hk_.2.1), hk_.1, (Kd.fresh' (Kd.N_lt (by (with_reducible repeat (first | apply Kd.N_alloc | apply Kd.N_drewN | apply Kd.N_drew)); exact HO_183002.out)) k_ hk_.2.1), (Kd.freshB (g := gb179) (o := .cells #[.int .i64 a0_0, .slice A0_1 l0_1.length c0_1, .slice A0_2 l0_2.length c0_2] 25 (0, 0)) (by (with_reducible repeat (first | apply bkN | apply bkD | apply bkA)); exact BK179.out) k_ hk_.2.1), (Kd.freshB (g := gb180) (o := .cells #[.int .i64 x181000_3, .slice none 0 0, .slice none 0 0] 25 (0, 0)) (by (with_reducible repeat (first | apply bkN | apply bkD | apply bkA)); exact BK180.out) k_ hk_.2.1), (Kd.freshB (g := gb182) (o := .cells #[.int .i64 2, .slice none 0 0, u183002] 25 (0, 0)) (by (with_reducible repeat (first | apply bkN | apply bkD | apply bkA)); exact BK182.out) k_ hk_.2.1)⟩)) (below_size (by repeat (first | (with_reducible first | exact HB.out | apply blA | apply blN | apply blD | refine bS ?_ GE179.out | refine bS ?_ GE180.out | refine bS ?_ GE182.out) | exact HB.out))))
            have n3_ := aM (blk_below (g := gb179) (o := .cells #[.int .i64 a0_0, .slice A0_1 l0_1.length c0_1, .slice A0_2 l0_2.length c0_2] 25 (0, 0)) (by (with_reducible repeat (first | apply bkN | apply bkD | apply bkA)); exact BK179.out) hb)
            have n4_ := aM (blk_below (g := gb180) (o := .cells #[.int .i64 x181000_3, .slice none 0 0, .slice none 0 0] 25 (0, 0)) (by (with_reducible repeat (first | apply bkN | apply bkD | apply bkA)); exact BK180.out) hb)
            have n5_ := aM (blk_below (g := gb182) (o := .cells #[.int .i64 2, .slice none 0 0, u183002] 25 (0, 0)) (by (with_reducible repeat (first | apply bkN | apply bkD | apply bkA)); exact BK182.out) hb)
            have n6_ := aM (below_step (by repeat (first | (with_reducible first | exact HB.out | apply blA | apply blN | apply blD | refine bS ?_ GE179.out | refine bS ?_ GE180.out | refine bS ?_ GE182.out) | exact HB.out)) hb)
            clear HO_183002
            clear BK179
            clear BK180
            clear BK182
            clear HB
            have HO_183002 := n0_
            have HO196 := n1_
            have HO199 := n2_
            have BK179 := n3_
            have BK180 := n4_
            have BK182 := n5_
            have HB := n6_
            clear n0_ n1_ n2_ n3_ n4_ n5_ n6_
            (try clear hb)
            (try clear hb2)
            (try clear hk)
            (try clear hi)
            (try clear ho0)
            (try clear ho1)
            obtain ⟨Ao51, co51, eo51⟩ := Kd.R_slice HO196.out
            (first | subst eo51 | (injection eo51 with f1_ f2_ f3_; have f4_ := f1_.symm; have f5_ := f3_.symm; clear f1_ f2_ f3_; subst f4_; subst f5_))
            obtain ⟨Ao52, co52, eo52⟩ := Kd.N_slice HO199.out
            (first | subst eo52 | (injection eo52 with f1_ f2_ f3_; have f4_ := f1_.symm; have f5_ := f3_.symm; clear f1_ f2_ f3_; subst f4_; subst f5_))
            refine hK.out _ _ ⟨(blk_cell BK182.out 0).trans rfl, (blk_cell BK182.out 1).trans rfl, (blk_cell BK182.out 2).trans rfl, (blk_cell BK179.out 0).trans rfl, (blk_cell BK179.out 1).trans rfl, (blk_cell BK179.out 2).trans rfl⟩ (fun hHeld => ?_)
            clear hK K
            refine norm_ (a' := ?_) ?_ ?_
            rotate_left
            · show Act.put _ (some 58) _ = _
              simp only [Act.put, List.setIfInBounds_toArray, List.set_cons_zero, List.set_cons_succ, i64_w, i32_w]
              rfl
            refine one_ (i := 4) (N := some 59) #[true, true, true, true, true, false, false, false, false, false] rfl rfl (one_of HT_.out (by kernel_rfl)) (by decide) (fun K hK => ?_)
            refine Kd.N_lit_step k25 _ 25 ?hg (N' := 59) ?hd (xs := ([(⟨t193, t194, t197⟩ : S25)] : List (S25))) (inner := [.int .i64 t193, .slice Ao51 t194.length co51, .slice Ao52 t197.length co52]) (ok := (fun k_ => (w.heap.size ≤ k_) ∧ some k_ ≠ (u183002 : Value).ownBlock ∧ k_ ≠ gb179 ∧ k_ ≠ gb180 ∧ k_ ≠ gb182)) (okp := (fun k_ => (w.heap.size ≤ k_) ∧ some k_ ≠ (u183002 : Value).ownBlock ∧ k_ ≠ gb179 ∧ k_ ≠ gb180 ∧ k_ ≠ gb182)) ?hr ?hp (fun _ hk => hk) ((show ∀ k_, w50.heap.size ≤ k_ → (fun k_ => (w.heap.size ≤ k_) ∧ some k_ ≠ (u183002 : Value).ownBlock ∧ k_ ≠ gb179 ∧ k_ ≠ gb180 ∧ k_ ≠ gb182) k_ from fun k_ hk => ⟨(Nat.le_trans (below_size (by repeat (first | (with_reducible first | exact HB.out | apply blA | apply blN | apply blD | refine bS ?_ GE179.out | refine bS ?_ GE180.out | refine bS ?_ GE182.out) | exact HB.out))) hk), Kd.fresh' (Kd.N_lt (by (with_reducible repeat (first | apply Kd.N_alloc | apply Kd.N_drewN | apply Kd.N_drew)); exact HO_183002.out)) k_ hk, Kd.freshB (g := gb179) (o := .cells #[.int .i64 a0_0, .slice A0_1 l0_1.length c0_1, .slice A0_2 l0_2.length c0_2] 25 (0, 0)) (by (with_reducible repeat (first | apply bkN | apply bkD | apply bkA)); exact BK179.out) k_ hk, Kd.freshB (g := gb180) (o := .cells #[.int .i64 x181000_3, .slice none 0 0, .slice none 0 0] 25 (0, 0)) (by (with_reducible repeat (first | apply bkN | apply bkD | apply bkA)); exact BK180.out) k_ hk, Kd.freshB (g := gb182) (o := .cells #[.int .i64 2, .slice none 0 0, u183002] 25 (0, 0)) (by (with_reducible repeat (first | apply bkN | apply bkD | apply bkA)); exact BK182.out) k_ hk⟩) _ (Nat.le_refl _)) (Below.refl _ _) (Nat.le_refl _) (by simp) ?_; (case hd => rfl); (case hg => rfl); (case hr => first | (go_simp; done) | (go_simp; rfl)); (case hp => exact (Reps.c3 (show Kd.FK k25 _ _ (⟨t193, t194, t197⟩ : S25) [.int .i64 t193, .slice Ao51 t194.length co51, .slice Ao52 t197.length co52] from (k25_mkF _ _ (⟨t193, t194, t197⟩ : S25) (Kd.R_reads' (Kd.R_mono (ok' := (fun k_ => (w.heap.size ≤ k_) ∧ some k_ ≠ (u183002 : Value).ownBlock ∧ k_ ≠ gb179 ∧ k_ ≠ gb180 ∧ k_ ≠ gb182)) (Kd.R_types (Kd.R_types (Kd.R_types (Kd.R_apart' (HO196.out) (Kd.N_typed HO_183002.out) (by decide)) BK179.out (by decide)) BK180.out (by decide)) BK182.out (by decide)) (fun k_ hk => ⟨hk.1.1.1.1.1, ⟨hk.1.1.1.2, ⟨hk.1.1.2, ⟨hk.1.2, hk.2⟩⟩⟩⟩))).2.1 (Kd.R_F (Kd.R_mono (ok' := (fun k_ => (w.heap.size ≤ k_) ∧ some k_ ≠ (u183002 : Value).ownBlock ∧ k_ ≠ gb179 ∧ k_ ≠ gb180 ∧ k_ ≠ gb182)) (Kd.R_types (Kd.R_types (Kd.R_types (Kd.R_apart' (HO196.out) (Kd.N_typed HO_183002.out) (by decide)) BK179.out (by decide)) BK180.out (by decide)) BK182.out (by decide)) (fun k_ hk => ⟨hk.1.1.1.1.1, ⟨hk.1.1.1.2, ⟨hk.1.1.2, ⟨hk.1.2, hk.2⟩⟩⟩⟩))) (Kd.N_reads' (Kd.N_mono (ok' := (fun k_ => (w.heap.size ≤ k_) ∧ some k_ ≠ (u183002 : Value).ownBlock ∧ k_ ≠ gb179 ∧ k_ ≠ gb180 ∧ k_ ≠ gb182)) (HO199.out) (fun k_ hk => ⟨hk.1, ⟨hk.2.2.1, ⟨hk.2.2.2.1, ⟨hk.2.2.2.2.1, hk.2.2.2.2.2⟩⟩⟩⟩))).2.1 (Kd.N_F (Kd.N_mono (ok' := (fun k_ => (w.heap.size ≤ k_) ∧ some k_ ≠ (u183002 : Value).ownBlock ∧ k_ ≠ gb179 ∧ k_ ≠ gb180 ∧ k_ ≠ gb182)) (HO199.out) (fun k_ hk => ⟨hk.1, ⟨hk.2.2.1, ⟨hk.2.2.2.1, ⟨hk.2.2.2.2.1, hk.2.2.2.2.2⟩⟩⟩⟩))))) (Reps.none _ _)))
            intro v201 w53 ho54 hb hg_ hnew_
            clear hg_ hnew_
            (first | rw [← Ny200.out] at ho54 | (simp only [Int.reduceToNat] at ho54; rw [← Ny200.out] at ho54))
            have n0_ := aM (Kd.N_elder' (by (with_reducible repeat (first | apply Kd.N_alloc | apply Kd.N_drewN | apply Kd.N_drew)); exact HO_183002.out) (Kd.N_base ho54) hb)
            have n1_ := aM (Kd.N_lower ho54 (below_size (by repeat (first | (with_reducible first | exact HB.out | apply blA | apply blN | apply blD | refine bS ?_ GE179.out | refine bS ?_ GE180.out | refine bS ?_ GE182.out) | exact HB.out))))
            have n2_ := aM (blk_below (g := gb179) (o := .cells #[.int .i64 a0_0, .slice A0_1 l0_1.length c0_1, .slice A0_2 l0_2.length c0_2] 25 (0, 0)) (by (with_reducible repeat (first | apply bkN | apply bkD | apply bkA)); exact BK179.out) hb)
            have n3_ := aM (blk_below (g := gb180) (o := .cells #[.int .i64 x181000_3, .slice none 0 0, .slice none 0 0] 25 (0, 0)) (by (with_reducible repeat (first | apply bkN | apply bkD | apply bkA)); exact BK180.out) hb)
            have n4_ := aM (blk_below (g := gb182) (o := .cells #[.int .i64 2, .slice none 0 0, u183002] 25 (0, 0)) (by (with_reducible repeat (first | apply bkN | apply bkD | apply bkA)); exact BK182.out) hb)
            have n5_ := aM (below_step (by repeat (first | (with_reducible first | exact HB.out | apply blA | apply blN | apply blD | refine bS ?_ GE179.out | refine bS ?_ GE180.out | refine bS ?_ GE182.out) | exact HB.out)) hb)
            clear HO_183002
            clear BK179
            clear BK180
            clear BK182
            clear HB
            clear HO196
            clear HO199
            have HO_183002 := n0_
            have HO202 := n1_
            have BK179 := n2_
            have BK180 := n3_
            have BK182 := n4_
            have HB := n5_
            clear n0_ n1_ n2_ n3_ n4_ n5_
            clear hb ho54
            obtain ⟨Ao55, co55, eo55⟩ := Kd.N_slice HO202.out
            (first | subst eo55 | (injection eo55 with f1_ f2_ f3_; have f4_ := f1_.symm; have f5_ := f3_.symm; clear f1_ f2_ f3_; subst f4_; subst f5_))
            refine hK.out _ _ ⟨(blk_cell BK182.out 0).trans rfl, (blk_cell BK182.out 1).trans rfl, (blk_cell BK182.out 2).trans rfl, (blk_cell BK179.out 0).trans rfl, (blk_cell BK179.out 1).trans rfl, (blk_cell BK179.out 2).trans rfl⟩ (fun hHeld => ?_)
            clear hK K
            refine norm_ (a' := ?_) ?_ ?_
            rotate_left
            · show Act.put _ (some 59) _ = _
              simp only [Act.put, List.setIfInBounds_toArray, List.set_cons_zero, List.set_cons_succ, i64_w, i32_w]
              rfl
            refine pure_ (i := 5) (N := some 60) (v := ?_) (a' := ?_) #[true, true, true, true, true, true, false, false, false, false] rfl rfl (any_of HT_.out (by kernel_rfl)) (fun _ _ _ h => h) (Or.inl ⟨by rfl, ?_⟩) ?_ ?_
            rotate_left
            · intro w'
              go_simp
              with_reducible rfl
            rotate_left
            · simp only [Act.put, List.setIfInBounds_toArray, List.set_cons_zero, List.set_cons_succ, i64_w, i32_w]
              rfl
            refine one_ (i := 6) (N := some 61) #[true, true, true, true, true, true, true, false, false, false] rfl rfl (one_of HT_.out (by kernel_rfl)) (by decide) (fun K hK => ?_)
            refine value_ (w1 := ?_) (v := ?_) (by rfl) rfl ?_ ?_
            rotate_left 2
            · go_simp
              constructor
              · rfl
              · rfl
            refine hK.out _ _ ⟨(blk_cell (blk_alloc BK182.out _) 0).trans rfl, (blk_cell (blk_alloc BK182.out _) 1).trans rfl, (blk_cell (blk_alloc BK182.out _) 2).trans rfl, (blk_cell (blk_alloc BK179.out _) 0).trans rfl, (blk_cell (blk_alloc BK179.out _) 1).trans rfl, (blk_cell (blk_alloc BK179.out _) 2).trans rfl⟩ (fun hHeld => ?_)
            clear hK K
            refine norm_ (a' := ?_) ?_ ?_
            rotate_left
            · show Act.put _ (some 61) _ = _
              simp only [Act.put, List.setIfInBounds_toArray, List.set_cons_zero, List.set_cons_succ, i64_w, i32_w]
              rfl
            refine one_ (i := 7) (N := some 62) #[true, true, true, true, true, true, true, true, false, false] rfl rfl (one_of HT_.out (by kernel_rfl)) (by decide) (fun K hK => ?_)
            refine Kd.N_append_step k25 (w0 := w) w.heap.size (by rfl) (.tmp 56) (.tmp 61) 23 25 (.agg #[(.int .i64 0), (.slice none 0 0), (.slice none 0 0)]) 56 rfl Try.underlying23 info25 rfl (by decide) (by omega) u183002 x183002_2 (⟨4, ([] : List (S66)), y200⟩ : S25) [.int .i64 4, .slice none 0 0, .slice Ao55 y200.length co55] (fun k_ => (w.heap.size ≤ k_) ∧ k_ ≠ gb179 ∧ k_ ≠ gb180 ∧ k_ ≠ gb182) (fun k_ => ((fun k_ => (w.heap.size ≤ k_) ∧ k_ ≠ gb179 ∧ k_ ≠ gb180 ∧ k_ ≠ gb182)) k_ ∧ some k_ ≠ (u183002 : Value).ownBlock) rfl rfl ?aP (fun _ hk => hk) ?aF ?aO ?aB ?aS ?aL ?_
            (case aP => exact (k25_mkF _ _ (⟨4, ([] : List (S66)), y200⟩ : S25) (Nat.le_refl _) (Kd.F_nil _ _ _) (Kd.N_reads' (Kd.N_mono (ok' := (fun k_ => ((fun k_ => (w.heap.size ≤ k_) ∧ k_ ≠ gb179 ∧ k_ ≠ gb180 ∧ k_ ≠ gb182)) k_ ∧ some k_ ≠ (u183002 : Value).ownBlock)) (HO202.out) (fun k_ hk => ⟨⟨hk.1, ⟨hk.2.2.1, ⟨hk.2.2.2.1, hk.2.2.2.2⟩⟩⟩, hk.2.1⟩))).2.1 (Kd.N_F (Kd.N_mono (ok' := (fun k_ => ((fun k_ => (w.heap.size ≤ k_) ∧ k_ ≠ gb179 ∧ k_ ≠ gb180 ∧ k_ ≠ gb182)) k_ ∧ some k_ ≠ (u183002 : Value).ownBlock)) (HO202.out) (fun k_ hk => ⟨⟨hk.1, ⟨hk.2.2.1, ⟨hk.2.2.2.1, hk.2.2.2.2⟩⟩⟩, hk.2.1⟩)))))
            (case aB => exact (by repeat (first | (with_reducible first | exact HB.out | apply blA | apply blN | apply blD | refine bS ?_ GE179.out | refine bS ?_ GE180.out | refine bS ?_ GE182.out) | exact HB.out)))
            (case aF => exact (fun k_ hk => ⟨(Nat.le_trans (below_size (by repeat (first | (with_reducible first | exact HB.out | apply blA | apply blN | apply blD | refine bS ?_ GE179.out | refine bS ?_ GE180.out | refine bS ?_ GE182.out) | exact HB.out))) hk), Kd.freshB (g := gb179) (o := .cells #[.int .i64 a0_0, .slice A0_1 l0_1.length c0_1, .slice A0_2 l0_2.length c0_2] 25 (0, 0)) (by (with_reducible repeat (first | apply bkN | apply bkD | apply bkA)); exact BK179.out) k_ hk, Kd.freshB (g := gb180) (o := .cells #[.int .i64 x181000_3, .slice none 0 0, .slice none 0 0] 25 (0, 0)) (by (with_reducible repeat (first | apply bkN | apply bkD | apply bkA)); exact BK180.out) k_ hk, Kd.freshB (g := gb182) (o := .cells #[.int .i64 2, .slice none 0 0, u183002] 25 (0, 0)) (by (with_reducible repeat (first | apply bkN | apply bkD | apply bkA)); exact BK182.out) k_ hk⟩))
            (case aO => exact (by (with_reducible repeat (first | apply Kd.N_alloc | apply Kd.N_drewN | apply Kd.N_drew)); exact Kd.N_mono HO_183002.out (fun _ hk => ⟨hk.1.1.1.1, ⟨hk.1.1.1.2.1, ⟨hk.1.1.1.2.2.1, hk.1.1.1.2.2.2⟩⟩⟩)))
            (case aS => exact (below_size (by repeat (first | (with_reducible first | exact HB.out | apply blA | apply blN | apply blD | refine bS ?_ GE179.out | refine bS ?_ GE180.out | refine bS ?_ GE182.out) | exact HB.out))))
            (case aL => have := LMc48.out; omega)
            intro v204 w56 ho hb hg hat
            rw [← Ny203.out] at ho
            have n0_ := aM (blk_grown (g := gb179) (o := .cells #[.int .i64 a0_0, .slice A0_1 l0_1.length c0_1, .slice A0_2 l0_2.length c0_2] 25 (0, 0)) (by (with_reducible repeat (first | apply bkN | apply bkD | apply bkA)); exact BK179.out) hg (Kd.N_away HO_183002.out (fun _ hk => hk.1.1.1.2.1)))
            have n1_ := aM (blk_grown (g := gb180) (o := .cells #[.int .i64 x181000_3, .slice none 0 0, .slice none 0 0] 25 (0, 0)) (by (with_reducible repeat (first | apply bkN | apply bkD | apply bkA)); exact BK180.out) hg (Kd.N_away HO_183002.out (fun _ hk => hk.1.1.1.2.2.1)))
            have n2_ := aM (blk_grown (g := gb182) (o := .cells #[.int .i64 2, .slice none 0 0, u183002] 25 (0, 0)) (by (with_reducible repeat (first | apply bkN | apply bkD | apply bkA)); exact BK182.out) hg (Kd.N_away HO_183002.out (fun _ hk => hk.1.1.1.2.2.2)))
            have n3_ := aM (hb)
            have n4_ := aM (ho)
            clear BK179
            clear BK180
            clear BK182
            clear HB
            clear HO_183002
            clear HO202
            have BK179 := n0_
            have BK180 := n1_
            have BK182 := n2_
            have HB := n3_
            have HO205 := n4_
            clear n0_ n1_ n2_ n3_ n4_
            clear ho hb hg hat
            obtain ⟨Ao57, co57, eo57⟩ := Kd.N_slice HO205.out
            (first | subst eo57 | (injection eo57 with f1_ f2_ f3_; have f4_ := f1_.symm; have f5_ := f3_.symm; clear f1_ f2_ f3_; subst f4_; subst f5_))
            refine hK.out _ _ ⟨(blk_cell BK182.out 0).trans rfl, (blk_cell BK182.out 1).trans rfl, (blk_cell BK182.out 2).trans rfl, (blk_cell BK179.out 0).trans rfl, (blk_cell BK179.out 1).trans rfl, (blk_cell BK179.out 2).trans rfl⟩ (fun hHeld => ?_)
            clear hK K
            refine norm_ (a' := ?_) ?_ ?_
            rotate_left
            · show Act.put _ (some 62) _ = _
              simp only [Act.put, List.setIfInBounds_toArray, List.set_cons_zero, List.set_cons_succ, i64_w, i32_w]
              rfl
            refine pure_ (i := 8) (N := some 63) (v := ?_) (a' := ?_) #[true, true, true, true, true, true, true, true, true, false] rfl rfl (any_of HT_.out (by kernel_rfl)) (fun _ _ _ h => h) (Or.inl ⟨by rfl, ?_⟩) ?_ ?_
            rotate_left
            · intro w'
              go_simp
              with_reducible rfl
            rotate_left
            · simp only [Act.put, List.setIfInBounds_toArray, List.set_cons_zero, List.set_cons_succ, i64_w, i32_w]
              rfl
            refine last_ (i := 9) (N := none) #[true, true, true, true, true, true, true, true, true, true] rfl rfl (one_of HT_.out (by kernel_rfl)) (by decide) (fun K hK => ?_)
            have hs58 : w56.cell? ⟨gb182, 2, none⟩ = some (u183002) := (blk_cell BK182.out 2).trans rfl
            have hfs58 := bF BK182.out 2
            have hns58_0 := NB179_182.out
            have hns58_1 := NB180_182.out
            have hms58_0 := NB182_179.out
            have hms58_1 := NB182_180.out
            refine skip_ (w1 := ?_) (by rfl) rfl ?_ ?_
            rotate_left
            · go_simp
              rfl
            refine hK.out _ _ ?_
            clear hK K
            refine done_ (done_of HT_.out (by kernel_rfl)) ?_
            try go_wp2
            go_meet
            case rel => exact ⟨_, (y203), (.slice Ao57 y203.length co57), H', ⟨by have := HJ3.out; have := HK2.out; first | omega | exact Nat.le_refl _⟩, ⟨by (with_reducible repeat (first | apply Kd.N_alloc | apply Kd.N_drewN | apply Kd.N_drew)); exact Kd.N_mono (Kd.N_far (p := ⟨gb182, 2, none⟩) (Kd.N_mono HO205.out (fun k_ hk => (⟨hk, hk.2.2.2⟩ : _ ∧ k_ ≠ gb182))) (fun _ hk => hk.2) (.slice Ao57 y203.length co57)) (fun _ hk => ⟨hk.1.1, ⟨hk.1.2.1, ⟨hk.1.2.2.1, hk.1.2.2.2⟩⟩⟩)⟩, ⟨by (with_reducible repeat (first | apply bkN | apply bkD | apply bkA)); refine blk_far ?_ NB179_182.out _; (with_reducible repeat (first | apply bkN | apply bkD | apply bkA)); exact BK179.out⟩, ⟨by (with_reducible repeat (first | apply bkN | apply bkD | apply bkA)); refine blk_far ?_ NB180_182.out _; (with_reducible repeat (first | apply bkN | apply bkD | apply bkA)); exact BK180.out⟩, ⟨by (with_reducible repeat (first | apply bkN | apply bkD | apply bkA)); refine blk_put (cs := #[.int .i64 2, .slice none 0 0, u183002]) ?_ 2 _ rfl; (with_reducible repeat (first | apply bkN | apply bkD | apply bkA)); exact BK182.out⟩, ⟨by repeat (first | (with_reducible first | exact HB.out | apply blA | apply blN | apply blD | refine bS ?_ GE179.out | refine bS ?_ GE180.out | refine bS ?_ GE182.out) | exact HB.out)⟩⟩
          · rw [if_neg c48] at H
            exact absurd H (by simp)
        · rw [if_neg c46] at H
          have c46b0 : decide (a2 < 0) = false := decide_eq_false c46
          clear c46
          (first | rw [c46b0] | (simp only [i64_w, i32_w]; rw [c46b0]) | skip)
          have H' := aM H
          clear H
          go_wp2
          go_meet
          case rel => exact ⟨_, (x183002_2), (u183002), H', ⟨by have := HJ3.out; have := HK2.out; first | omega | exact Nat.le_refl _⟩, ⟨by (with_reducible repeat (first | apply Kd.N_alloc | apply Kd.N_drewN | apply Kd.N_drew)); exact HO_183002.out⟩, ⟨by (with_reducible repeat (first | apply bkN | apply bkD | apply bkA)); exact BK179.out⟩, ⟨by (with_reducible repeat (first | apply bkN | apply bkD | apply bkA)); exact BK180.out⟩, ⟨by (with_reducible repeat (first | apply bkN | apply bkD | apply bkA)); exact BK182.out⟩, ⟨by repeat (first | (with_reducible first | exact HB.out | apply blA | apply blN | apply blD | refine bS ?_ GE179.out | refine bS ?_ GE180.out | refine bS ?_ GE182.out) | exact HB.out)⟩⟩
       case rest =>
        clear HC45
        obtain ⟨kq, x183002_44, u183002, HA, HJ44, HO_183002, BK179, BK180, BK182, HB⟩ := hcut
        cases kq with
        | zero => exact absurd HA.out (by simp [pat_Times.j3])
        | succ kj44 =>
         have H := HA.out
         clear HA
         simp only [pat_Times.j3] at H
         obtain ⟨ji59, hji59⟩ : ∃ j_ : Int, (mx a2 a1) = j_ := ⟨_, rfl⟩
         replace H : (pat_Times.l1 kj44 (mx 0 (wrap64 ((ji59) - a1))) 0 a0_0 l0_1 l0_2 2 x183002_44) = some (r1, r2, r3, r4) := by first | (rw [hji59] at H; exact H) | (simp only [hji59] at H ⊢; exact H)
         have hji59_ : (if a2 < a1 then a1 else a2) = ji59 := hji59
         obtain ⟨ji60, hji60⟩ : ∃ j_ : Int, (mx 0 (wrap64 ((ji59) - a1))) = j_ := ⟨_, rfl⟩
         replace H : (pat_Times.l1 kj44 ji60 0 a0_0 l0_1 l0_2 2 x183002_44) = some (r1, r2, r3, r4) := by first | (rw [hji60] at H; exact H) | (simp only [hji60] at H ⊢; exact H)
         have hji60_ : (if 0 < (wrap64 ((ji59) - a1)) then (wrap64 ((ji59) - a1)) else 0) = ji60 := hji60
         have H' := aM H
         clear H
         go_wp2
         go_loopg [70] kj44 (fun kq v70 w' => ∃ (x70_4 : Int) (x183002_4 : List (S25)) (u183002 : Value), v70 = .int .i64 x70_4 ∧ Aside0 (pat_Times.l1 kq ji60 x70_4 a0_0 l0_1 l0_2 2 x183002_4 = some (r1, r2, r3, r4)) ∧ Aside0 (kq ≤ kj44) ∧ Aside0 (Kd.N k25 25 w' w.heap.size (fun k_ => (w.heap.size ≤ k_) ∧ k_ ≠ gb179 ∧ k_ ≠ gb180 ∧ k_ ≠ gb182) u183002 x183002_4) ∧ Aside0 (w'.heap[gb179]? = some (.cells #[.int .i64 a0_0, (.slice A0_1 l0_1.length c0_1), (.slice A0_2 l0_2.length c0_2)] 25 (0, 0))) ∧ Aside0 (w'.heap[gb180]? = some (.cells #[.int .i64 x181000_3, (.slice none 0 0), (.slice none 0 0)] 25 (0, 0))) ∧ Aside0 (w'.heap[gb182]? = some (.cells #[.int .i64 2, (.slice none 0 0), u183002] 25 (0, 0))) ∧ Aside0 (Below w.heap.size w w'))
         case atStart => exact ⟨(0), (x183002_44), (u183002), (by first | rfl | (simp; done) | (simp [*]; done)), H', ⟨Nat.le_refl _⟩, ⟨by (with_reducible repeat (first | apply Kd.N_alloc | apply Kd.N_drewN | apply Kd.N_drew)); exact HO_183002.out⟩, ⟨by (with_reducible repeat (first | apply bkN | apply bkD | apply bkA)); exact BK179.out⟩, ⟨by (with_reducible repeat (first | apply bkN | apply bkD | apply bkA)); exact BK180.out⟩, ⟨by (with_reducible repeat (first | apply bkN | apply bkD | apply bkA)); exact BK182.out⟩, ⟨by repeat (first | (with_reducible first | exact HB.out | apply blA | apply blN | apply blD | refine bS ?_ GE179.out | refine bS ?_ GE180.out | refine bS ?_ GE182.out) | exact HB.out)⟩⟩
         case round =>
          clear H'
          obtain ⟨x70_4, x183002_4, u183002, rfl, HA, HK4, HO_183002, BK179, BK180, BK182, HB⟩ := hrel
          cases gk with
          | zero => exact absurd HA.out (by simp [pat_Times.l1])
          | succ k4 =>
           have H := HA.out
           clear HA
           simp only [pat_Times.l1] at H
           by_cases c61 : x70_4 < ji60
           · rw [if_pos c61] at H
             have c61b0 : decide (x70_4 < ji60) = true := decide_eq_true c61
             clear c61
             replace H := Option.bind_eq_some_iff.mp H
             obtain ⟨⟨t206, t207, t210⟩, A620, H⟩ := H
             replace H : (if x183002_4.length < 2513169434916 then (pat_Times.l1 k4 ji60 (wrap64 (x70_4 + 1)) a0_0 l0_1 l0_2 2 (x183002_4 ++ [(⟨3, ([] : List (S66)), (([(⟨t206, t207, t210⟩ : S25), (⟨2, ([] : List (S66)), ([] : List (S25))⟩ : S25)] : List (S25)))⟩ : S25)])) else (none)) = some (r1, r2, r3, r4) := H
             have A62 := aM A620
             clear A620
             obtain ⟨y213, hy213⟩ : ∃ y_ : List (S25), y_ = (([(⟨t206, t207, t210⟩ : S25), (⟨2, ([] : List (S66)), ([] : List (S25))⟩ : S25)] : List (S25))) := ⟨_, rfl⟩
             replace H : (if x183002_4.length < 2513169434916 then (pat_Times.l1 k4 ji60 (wrap64 (x70_4 + 1)) a0_0 l0_1 l0_2 2 (x183002_4 ++ [(⟨3, ([] : List (S66)), y213⟩ : S25)])) else (none)) = some (r1, r2, r3, r4) := by first | (rw [hy213]; with_reducible exact H) | (have H2_ := (Option.bind_some _ _).symm.trans H; rw [hy213]; with_reducible exact H2_) | (have H2_ := (Option.bind_some _ _).symm.trans H; with_reducible exact H2_) | with_reducible exact H | (rw [hy213]; exact H) | exact H
             have Ny213 := aM hy213
             clear hy213
             by_cases c63 : x183002_4.length < 2513169434916
             · rw [if_pos c63] at H
               have LMc63 := aM c63
               clear c63
               obtain ⟨y216, hy216⟩ : ∃ y_ : List (S25), y_ = (x183002_4 ++ [(⟨3, ([] : List (S66)), y213⟩ : S25)]) := ⟨_, rfl⟩
               replace H : (pat_Times.l1 k4 ji60 (wrap64 (x70_4 + 1)) a0_0 l0_1 l0_2 2 y216) = some (r1, r2, r3, r4) := by first | (rw [hy216]; with_reducible exact H) | (have H2_ := (Option.bind_some _ _).symm.trans H; rw [hy216]; with_reducible exact H2_) | (have H2_ := (Option.bind_some _ _).symm.trans H; with_reducible exact H2_) | with_reducible exact H | (rw [hy216]; exact H) | exact H
               have Ny216 := aM hy216
               clear hy216
               have H' := aM H
               clear H
               try go_wp2
               have n0_ := aM (Kd.N_drew HO_183002.out)
               have n1_ := aM (blk_drew BK179.out)
               have n2_ := aM (blk_drew BK180.out)
               have n3_ := aM (blk_drew BK182.out)
               have n4_ := aM (below_drew1 HB.out)
               clear HO_183002
               clear BK179
               clear BK180
               clear BK182
               clear HB
               have HO_183002 := n0_
               have BK179 := n1_
               have BK180 := n2_
               have BK182 := n3_
               have HB := n4_
               clear n0_ n1_ n2_ n3_ n4_
               refine start_ (n := 11) (S := fun w' => w'.cell? ⟨gb182, 0, none⟩ = some (.int .i64 2) ∧ w'.cell? ⟨gb182, 1, none⟩ = some (.slice none 0 0) ∧ w'.cell? ⟨gb182, 2, none⟩ = some (u183002) ∧ w'.cell? ⟨gb179, 0, none⟩ = some (.int .i64 a0_0) ∧ w'.cell? ⟨gb179, 1, none⟩ = some (.slice A0_1 l0_1.length c0_1) ∧ w'.cell? ⟨gb179, 2, none⟩ = some (.slice A0_2 l0_2.length c0_2)) (ds := [10]) #[false, false, false, false, false, false, false, false, false, false, false] (by kernel_rfl) rfl rfl ⟨(blk_cell BK182.out 0).trans rfl, (blk_cell BK182.out 1).trans rfl, (blk_cell BK182.out 2).trans rfl, (blk_cell BK179.out 0).trans rfl, (blk_cell BK179.out 1).trans rfl, (blk_cell BK179.out 2).trans rfl⟩ (fun hHeld => ?_); refine with_tabW pat_Times.tab18 pat_Times.bits18 (fun HT_ HW_ => ?_)
               generalize wr.drew = w64 at HO_183002 BK179 BK180 BK182 HB hHeld ⊢
               refine pure_ (i := 0) (N := some 72) (v := ?_) (a' := ?_) #[true, false, false, false, false, false, false, false, false, false, false] rfl rfl (any_of HT_.out (by kernel_rfl)) (fun _ _ _ h => h) (Or.inl ⟨by rfl, ?_⟩) ?_ ?_
               rotate_left
               · intro w'
                 go_simp
                 with_reducible rfl
               rotate_left
               · simp only [Act.put, List.setIfInBounds_toArray, List.set_cons_zero, List.set_cons_succ, i64_w, i32_w]
                 rfl
               refine pure_ (i := 4) (N := some 76) (v := ?_) (a' := ?_) #[true, false, false, false, true, false, false, false, false, false, false] rfl rfl (any_of HT_.out (by kernel_rfl)) (fun _ _ _ h => h) (Or.inl ⟨by rfl, ?_⟩) ?_ ?_
               rotate_left
               · intro w'
                 go_simp
                 with_reducible rfl
               rotate_left
               · simp only [Act.put, List.setIfInBounds_toArray, List.set_cons_zero, List.set_cons_succ, i64_w, i32_w]
                 rfl
               refine take_ (i := 1) (N := some 73) (v := ?_) (a' := ?_) #[true, true, false, false, true, false, false, false, false, false, false] rfl rfl (take_ofW HT_.out HW_.out (by kernel_rfl)) (fun _ _ _ h => h) (Or.inl ⟨by rfl, ?_⟩) hHeld ?_ ?_
               rotate_left
               · rintro w' ⟨s0, s1, s2, s3, s4, s5⟩
                 go_simp
                 with_reducible rfl
               rotate_left
               · simp only [Act.put, List.setIfInBounds_toArray, List.set_cons_zero, List.set_cons_succ, i64_w, i32_w]
                 rfl
               refine take_ (i := 2) (N := some 74) (v := ?_) (a' := ?_) #[true, true, true, false, true, false, false, false, false, false, false] rfl rfl (take_ofW HT_.out HW_.out (by kernel_rfl)) (fun _ _ _ h => h) (Or.inl ⟨by rfl, ?_⟩) hHeld ?_ ?_
               rotate_left
               · rintro w' ⟨s0, s1, s2, s3, s4, s5⟩
                 go_simp
                 with_reducible rfl
               rotate_left
               · simp only [Act.put, List.setIfInBounds_toArray, List.set_cons_zero, List.set_cons_succ, i64_w, i32_w]
                 rfl
               refine one_ (i := 3) (N := some 75) #[true, true, true, true, true, false, false, false, false, false, false] rfl rfl (one_of HT_.out (by kernel_rfl)) (by decide) (fun K hK => ?_)
               refine goes_ Try.func50 (by kernel_rfl) rfl #[.agg #[.int .i64 a0_0, .slice A0_1 l0_1.length c0_1, .slice A0_2 l0_2.length c0_2]] (by rfl) rfl rfl (by (try simp only [List.map_toArray, List.map_cons, List.map_nil]); first | done | rfl | (simp only [List.length_drop, List.length_take]; rfl)) ?_
               with_reducible refine (pat_twin.calls k4 a0_0 _ _ l0_1 _ _ l0_2 t206 t207 t210 _ ?side1 ?side2 ?side3 ?side4 A62.out).mono ?_
               (case side1 => repeat (first | exact (Kd.C_below HR0_1.out HB.out) | (with_reducible refine Kd.C_alloc ?_ _) | (with_reducible refine Kd.C_drewN ?_ _) | (with_reducible refine Kd.C_drew ?_)))
               (case side2 => exact HC0_1.out)
               (case side3 => repeat (first | exact (Kd.C_below HR0_2.out HB.out) | (with_reducible refine Kd.C_alloc ?_ _) | (with_reducible refine Kd.C_drewN ?_ _) | (with_reducible refine Kd.C_drew ?_)))
               (case side4 => exact HC0_2.out)
               rintro e w65 ⟨v208, v211, rfl, ho0, ho1, hb⟩
               refine ⟨_, rfl, ?_⟩
               have n0_ := aM (Kd.N_mono (Kd.N_told (Kd.N_told (Kd.N_old (by (with_reducible repeat (first | apply Kd.N_alloc | apply Kd.N_drewN | apply Kd.N_drew)); exact HO_183002.out) hb) (Kd.R_base ho0)) (by first | exact Kd.N_base ho1 | exact Kd.R_base ho1)) (fun _ h_ => h_.1))
               have n1_ := aM (Kd.R_lower (Kd.R_newM (M := fun k_ => (w.heap.size ≤ k_)) ho0 (below_size (by repeat (first | (with_reducible first | exact HB.out | apply blA | apply blN | apply blD | refine bS ?_ GE179.out | refine bS ?_ GE180.out | refine bS ?_ GE182.out) | exact HB.out))) (fun k_ h_ => h_)) (below_size (by repeat (first | (with_reducible first | exact HB.out | apply blA | apply blN | apply blD | refine bS ?_ GE179.out | refine bS ?_ GE180.out | refine bS ?_ GE182.out) | exact HB.out))))
               have n2_ := aM (Kd.N_lower (Kd.N_mono (ok' := fun k_ => (w.heap.size ≤ k_) ∧ some k_ ≠ (v208 : Value).ownBlock ∧ some k_ ≠ (u183002 : Value).ownBlock ∧ k_ ≠ gb179 ∧ k_ ≠ gb180 ∧ k_ ≠ gb182) (Kd.R_N (Kd.R_bound ho1)) (fun k_ hk_ => ⟨(Nat.le_trans (below_size (by repeat (first | (with_reducible first | exact HB.out | apply blA | apply blN | apply blD | refine bS ?_ GE179.out | refine bS ?_ GE180.out | refine bS ?_ GE182.out) | exact HB.out))) hk_.2.1), hk_.1, (Kd.fresh' (Kd.N_lt (by (with_reducible repeat (first | apply Kd.N_alloc | apply Kd.N_drewN | apply Kd.N_drew)); exact HO_183002.out)) k_ hk_.2.1), (Kd.freshB (g := gb179) (o := .cells #[.int .i64 a0_0, .slice A0_1 l0_1.length c0_1, .slice A0_2 l0_2.length c0_2] 25 (0, 0)) (by (with_reducible repeat (first | apply bkN | apply bkD | apply bkA)); exact BK179.out) k_ hk_.2.1), (Kd.freshB (g := gb180) (o := .cells #[.int .i64 x181000_3, .slice none 0 0, .slice none 0 0] 25 (0, 0)) (by (with_reducible repeat (first | apply bkN | apply bkD | apply bkA)); exact BK180.out) k_ hk_.2.1), (Kd.freshB (g := gb182) (o := .cells #[.int .i64 2, .slice none 0 0, u183002] 25 (0, 0)) (by (with_reducible repeat (first | apply bkN | apply bkD | apply bkA)); exact BK182.out) k_ hk_.2.1)⟩)) (below_size (by repeat (first | (with_reducible first | exact HB.out | apply blA | apply blN | apply blD | refine bS ?_ GE179.out | refine bS ?_ GE180.out | refine bS ?_ GE182.out) | exact HB.out))))
               have n3_ := aM (blk_below (g := gb179) (o := .cells #[.int .i64 a0_0, .slice A0_1 l0_1.length c0_1, .slice A0_2 l0_2.length c0_2] 25 (0, 0)) (by (with_reducible repeat (first | apply bkN | apply bkD | apply bkA)); exact BK179.out) hb)
               have n4_ := aM (blk_below (g := gb180) (o := .cells #[.int .i64 x181000_3, .slice none 0 0, .slice none 0 0] 25 (0, 0)) (by (with_reducible repeat (first | apply bkN | apply bkD | apply bkA)); exact BK180.out) hb)
               have n5_ := aM (blk_below (g := gb182) (o := .cells #[.int .i64 2, .slice none 0 0, u183002] 25 (0, 0)) (by (with_reducible repeat (first | apply bkN | apply bkD | apply bkA)); exact BK182.out) hb)
               have n6_ := aM (below_step (by repeat (first | (with_reducible first | exact HB.out | apply blA | apply blN | apply blD | refine bS ?_ GE179.out | refine bS ?_ GE180.out | refine bS ?_ GE182.out) | exact HB.out)) hb)
               clear HO_183002
               clear BK179
               clear BK180
               clear BK182
               clear HB
               have HO_183002 := n0_
               have HO209 := n1_
               have HO212 := n2_
               have BK179 := n3_
               have BK180 := n4_
               have BK182 := n5_
               have HB := n6_
               clear n0_ n1_ n2_ n3_ n4_ n5_ n6_
               (try clear hb)
               (try clear hb2)
               (try clear hk)
               (try clear hi)
               (try clear ho0)
               (try clear ho1)
               obtain ⟨Ao66, co66, eo66⟩ := Kd.R_slice HO209.out
               (first | subst eo66 | (injection eo66 with f1_ f2_ f3_; have f4_ := f1_.symm; have f5_ := f3_.symm; clear f1_ f2_ f3_; subst f4_; subst f5_))
               obtain ⟨Ao67, co67, eo67⟩ := Kd.N_slice HO212.out
               (first | subst eo67 | (injection eo67 with f1_ f2_ f3_; have f4_ := f1_.symm; have f5_ := f3_.symm; clear f1_ f2_ f3_; subst f4_; subst f5_))
               refine hK.out _ _ ⟨(blk_cell BK182.out 0).trans rfl, (blk_cell BK182.out 1).trans rfl, (blk_cell BK182.out 2).trans rfl, (blk_cell BK179.out 0).trans rfl, (blk_cell BK179.out 1).trans rfl, (blk_cell BK179.out 2).trans rfl⟩ (fun hHeld => ?_)
               clear hK K
               refine norm_ (a' := ?_) ?_ ?_
               rotate_left
               · show Act.put _ (some 75) _ = _
                 simp only [Act.put, List.setIfInBounds_toArray, List.set_cons_zero, List.set_cons_succ, i64_w, i32_w]
                 rfl
               refine one_ (i := 5) (N := some 77) #[true, true, true, true, true, true, false, false, false, false, false] rfl rfl (one_of HT_.out (by kernel_rfl)) (by decide) (fun K hK => ?_)
               refine Kd.N_lit_step k25 _ 25 ?hg (N' := 77) ?hd (xs := ([(⟨t206, t207, t210⟩ : S25), (⟨2, ([] : List (S66)), ([] : List (S25))⟩ : S25)] : List (S25))) (inner := [.int .i64 t206, .slice Ao66 t207.length co66, .slice Ao67 t210.length co67, .int .i64 2, .slice none 0 0, .slice none 0 0]) (ok := (fun k_ => (w.heap.size ≤ k_) ∧ some k_ ≠ (u183002 : Value).ownBlock ∧ k_ ≠ gb179 ∧ k_ ≠ gb180 ∧ k_ ≠ gb182)) (okp := (fun k_ => (w.heap.size ≤ k_) ∧ some k_ ≠ (u183002 : Value).ownBlock ∧ k_ ≠ gb179 ∧ k_ ≠ gb180 ∧ k_ ≠ gb182)) ?hr ?hp (fun _ hk => hk) ((show ∀ k_, w65.heap.size ≤ k_ → (fun k_ => (w.heap.size ≤ k_) ∧ some k_ ≠ (u183002 : Value).ownBlock ∧ k_ ≠ gb179 ∧ k_ ≠ gb180 ∧ k_ ≠ gb182) k_ from fun k_ hk => ⟨(Nat.le_trans (below_size (by repeat (first | (with_reducible first | exact HB.out | apply blA | apply blN | apply blD | refine bS ?_ GE179.out | refine bS ?_ GE180.out | refine bS ?_ GE182.out) | exact HB.out))) hk), Kd.fresh' (Kd.N_lt (by (with_reducible repeat (first | apply Kd.N_alloc | apply Kd.N_drewN | apply Kd.N_drew)); exact HO_183002.out)) k_ hk, Kd.freshB (g := gb179) (o := .cells #[.int .i64 a0_0, .slice A0_1 l0_1.length c0_1, .slice A0_2 l0_2.length c0_2] 25 (0, 0)) (by (with_reducible repeat (first | apply bkN | apply bkD | apply bkA)); exact BK179.out) k_ hk, Kd.freshB (g := gb180) (o := .cells #[.int .i64 x181000_3, .slice none 0 0, .slice none 0 0] 25 (0, 0)) (by (with_reducible repeat (first | apply bkN | apply bkD | apply bkA)); exact BK180.out) k_ hk, Kd.freshB (g := gb182) (o := .cells #[.int .i64 2, .slice none 0 0, u183002] 25 (0, 0)) (by (with_reducible repeat (first | apply bkN | apply bkD | apply bkA)); exact BK182.out) k_ hk⟩) _ (Nat.le_refl _)) (Below.refl _ _) (Nat.le_refl _) (by simp) ?_; (case hd => rfl); (case hg => rfl); (case hr => first | (go_simp; done) | (go_simp; rfl)); (case hp => exact (Reps.c3 (show Kd.FK k25 _ _ (⟨t206, t207, t210⟩ : S25) [.int .i64 t206, .slice Ao66 t207.length co66, .slice Ao67 t210.length co67] from (k25_mkF _ _ (⟨t206, t207, t210⟩ : S25) (Kd.R_reads' (Kd.R_mono (ok' := (fun k_ => (w.heap.size ≤ k_) ∧ some k_ ≠ (u183002 : Value).ownBlock ∧ k_ ≠ gb179 ∧ k_ ≠ gb180 ∧ k_ ≠ gb182)) (Kd.R_types (Kd.R_types (Kd.R_types (Kd.R_apart' (HO209.out) (Kd.N_typed HO_183002.out) (by decide)) BK179.out (by decide)) BK180.out (by decide)) BK182.out (by decide)) (fun k_ hk => ⟨hk.1.1.1.1.1, ⟨hk.1.1.1.2, ⟨hk.1.1.2, ⟨hk.1.2, hk.2⟩⟩⟩⟩))).2.1 (Kd.R_F (Kd.R_mono (ok' := (fun k_ => (w.heap.size ≤ k_) ∧ some k_ ≠ (u183002 : Value).ownBlock ∧ k_ ≠ gb179 ∧ k_ ≠ gb180 ∧ k_ ≠ gb182)) (Kd.R_types (Kd.R_types (Kd.R_types (Kd.R_apart' (HO209.out) (Kd.N_typed HO_183002.out) (by decide)) BK179.out (by decide)) BK180.out (by decide)) BK182.out (by decide)) (fun k_ hk => ⟨hk.1.1.1.1.1, ⟨hk.1.1.1.2, ⟨hk.1.1.2, ⟨hk.1.2, hk.2⟩⟩⟩⟩))) (Kd.N_reads' (Kd.N_mono (ok' := (fun k_ => (w.heap.size ≤ k_) ∧ some k_ ≠ (u183002 : Value).ownBlock ∧ k_ ≠ gb179 ∧ k_ ≠ gb180 ∧ k_ ≠ gb182)) (HO212.out) (fun k_ hk => ⟨hk.1, ⟨hk.2.2.1, ⟨hk.2.2.2.1, ⟨hk.2.2.2.2.1, hk.2.2.2.2.2⟩⟩⟩⟩))).2.1 (Kd.N_F (Kd.N_mono (ok' := (fun k_ => (w.heap.size ≤ k_) ∧ some k_ ≠ (u183002 : Value).ownBlock ∧ k_ ≠ gb179 ∧ k_ ≠ gb180 ∧ k_ ≠ gb182)) (HO212.out) (fun k_ hk => ⟨hk.1, ⟨hk.2.2.1, ⟨hk.2.2.2.1, ⟨hk.2.2.2.2.1, hk.2.2.2.2.2⟩⟩⟩⟩))))) (Reps.c3 (show Kd.FK k25 _ _ (⟨2, ([] : List (S66)), ([] : List (S25))⟩ : S25) [.int .i64 2, .slice none 0 0, .slice none 0 0] from (k25_mkF _ _ (⟨2, ([] : List (S66)), ([] : List (S25))⟩ : S25) (Nat.le_refl _) (Kd.F_nil _ _ _) (Nat.le_refl _) (Kd.F_nil _ _ _))) (Reps.none _ _))))
               intro v214 w68 ho69 hb hg_ hnew_
               clear hg_ hnew_
               (first | rw [← Ny213.out] at ho69 | (simp only [Int.reduceToNat] at ho69; rw [← Ny213.out] at ho69))
               have n0_ := aM (Kd.N_elder' (by (with_reducible repeat (first | apply Kd.N_alloc | apply Kd.N_drewN | apply Kd.N_drew)); exact HO_183002.out) (Kd.N_base ho69) hb)
               have n1_ := aM (Kd.N_lower ho69 (below_size (by repeat (first | (with_reducible first | exact HB.out | apply blA | apply blN | apply blD | refine bS ?_ GE179.out | refine bS ?_ GE180.out | refine bS ?_ GE182.out) | exact HB.out))))
               have n2_ := aM (blk_below (g := gb179) (o := .cells #[.int .i64 a0_0, .slice A0_1 l0_1.length c0_1, .slice A0_2 l0_2.length c0_2] 25 (0, 0)) (by (with_reducible repeat (first | apply bkN | apply bkD | apply bkA)); exact BK179.out) hb)
               have n3_ := aM (blk_below (g := gb180) (o := .cells #[.int .i64 x181000_3, .slice none 0 0, .slice none 0 0] 25 (0, 0)) (by (with_reducible repeat (first | apply bkN | apply bkD | apply bkA)); exact BK180.out) hb)
               have n4_ := aM (blk_below (g := gb182) (o := .cells #[.int .i64 2, .slice none 0 0, u183002] 25 (0, 0)) (by (with_reducible repeat (first | apply bkN | apply bkD | apply bkA)); exact BK182.out) hb)
               have n5_ := aM (below_step (by repeat (first | (with_reducible first | exact HB.out | apply blA | apply blN | apply blD | refine bS ?_ GE179.out | refine bS ?_ GE180.out | refine bS ?_ GE182.out) | exact HB.out)) hb)
               clear HO_183002
               clear BK179
               clear BK180
               clear BK182
               clear HB
               clear HO209
               clear HO212
               have HO_183002 := n0_
               have HO215 := n1_
               have BK179 := n2_
               have BK180 := n3_
               have BK182 := n4_
               have HB := n5_
               clear n0_ n1_ n2_ n3_ n4_ n5_
               clear hb ho69
               obtain ⟨Ao70, co70, eo70⟩ := Kd.N_slice HO215.out
               (first | subst eo70 | (injection eo70 with f1_ f2_ f3_; have f4_ := f1_.symm; have f5_ := f3_.symm; clear f1_ f2_ f3_; subst f4_; subst f5_))
               refine hK.out _ _ ⟨(blk_cell BK182.out 0).trans rfl, (blk_cell BK182.out 1).trans rfl, (blk_cell BK182.out 2).trans rfl, (blk_cell BK179.out 0).trans rfl, (blk_cell BK179.out 1).trans rfl, (blk_cell BK179.out 2).trans rfl⟩ (fun hHeld => ?_)
               clear hK K
               refine norm_ (a' := ?_) ?_ ?_
               rotate_left
               · show Act.put _ (some 77) _ = _
                 simp only [Act.put, List.setIfInBounds_toArray, List.set_cons_zero, List.set_cons_succ, i64_w, i32_w]
                 rfl
               refine pure_ (i := 6) (N := some 78) (v := ?_) (a' := ?_) #[true, true, true, true, true, true, true, false, false, false, false] rfl rfl (any_of HT_.out (by kernel_rfl)) (fun _ _ _ h => h) (Or.inl ⟨by rfl, ?_⟩) ?_ ?_
               rotate_left
               · intro w'
                 go_simp
                 with_reducible rfl
               rotate_left
               · simp only [Act.put, List.setIfInBounds_toArray, List.set_cons_zero, List.set_cons_succ, i64_w, i32_w]
                 rfl
               refine one_ (i := 7) (N := some 79) #[true, true, true, true, true, true, true, true, false, false, false] rfl rfl (one_of HT_.out (by kernel_rfl)) (by decide) (fun K hK => ?_)
               refine value_ (w1 := ?_) (v := ?_) (by rfl) rfl ?_ ?_
               rotate_left 2
               · go_simp
                 constructor
                 · rfl
                 · rfl
               refine hK.out _ _ ⟨(blk_cell (blk_alloc BK182.out _) 0).trans rfl, (blk_cell (blk_alloc BK182.out _) 1).trans rfl, (blk_cell (blk_alloc BK182.out _) 2).trans rfl, (blk_cell (blk_alloc BK179.out _) 0).trans rfl, (blk_cell (blk_alloc BK179.out _) 1).trans rfl, (blk_cell (blk_alloc BK179.out _) 2).trans rfl⟩ (fun hHeld => ?_)
               clear hK K
               refine norm_ (a' := ?_) ?_ ?_
               rotate_left
               · show Act.put _ (some 79) _ = _
                 simp only [Act.put, List.setIfInBounds_toArray, List.set_cons_zero, List.set_cons_succ, i64_w, i32_w]
                 rfl
               refine one_ (i := 8) (N := some 80) #[true, true, true, true, true, true, true, true, true, false, false] rfl rfl (one_of HT_.out (by kernel_rfl)) (by decide) (fun K hK => ?_)
               refine Kd.N_append_step k25 (w0 := w) w.heap.size (by rfl) (.tmp 73) (.tmp 79) 23 25 (.agg #[(.int .i64 0), (.slice none 0 0), (.slice none 0 0)]) 56 rfl Try.underlying23 info25 rfl (by decide) (by omega) u183002 x183002_4 (⟨3, ([] : List (S66)), y213⟩ : S25) [.int .i64 3, .slice none 0 0, .slice Ao70 y213.length co70] (fun k_ => (w.heap.size ≤ k_) ∧ k_ ≠ gb179 ∧ k_ ≠ gb180 ∧ k_ ≠ gb182) (fun k_ => ((fun k_ => (w.heap.size ≤ k_) ∧ k_ ≠ gb179 ∧ k_ ≠ gb180 ∧ k_ ≠ gb182)) k_ ∧ some k_ ≠ (u183002 : Value).ownBlock) rfl rfl ?aP (fun _ hk => hk) ?aF ?aO ?aB ?aS ?aL ?_
               (case aP => exact (k25_mkF _ _ (⟨3, ([] : List (S66)), y213⟩ : S25) (Nat.le_refl _) (Kd.F_nil _ _ _) (Kd.N_reads' (Kd.N_mono (ok' := (fun k_ => ((fun k_ => (w.heap.size ≤ k_) ∧ k_ ≠ gb179 ∧ k_ ≠ gb180 ∧ k_ ≠ gb182)) k_ ∧ some k_ ≠ (u183002 : Value).ownBlock)) (HO215.out) (fun k_ hk => ⟨⟨hk.1, ⟨hk.2.2.1, ⟨hk.2.2.2.1, hk.2.2.2.2⟩⟩⟩, hk.2.1⟩))).2.1 (Kd.N_F (Kd.N_mono (ok' := (fun k_ => ((fun k_ => (w.heap.size ≤ k_) ∧ k_ ≠ gb179 ∧ k_ ≠ gb180 ∧ k_ ≠ gb182)) k_ ∧ some k_ ≠ (u183002 : Value).ownBlock)) (HO215.out) (fun k_ hk => ⟨⟨hk.1, ⟨hk.2.2.1, ⟨hk.2.2.2.1, hk.2.2.2.2⟩⟩⟩, hk.2.1⟩)))))
               (case aB => exact (by repeat (first | (with_reducible first | exact HB.out | apply blA | apply blN | apply blD | refine bS ?_ GE179.out | refine bS ?_ GE180.out | refine bS ?_ GE182.out) | exact HB.out)))
               (case aF => exact (fun k_ hk => ⟨(Nat.le_trans (below_size (by repeat (first | (with_reducible first | exact HB.out | apply blA | apply blN | apply blD | refine bS ?_ GE179.out | refine bS ?_ GE180.out | refine bS ?_ GE182.out) | exact HB.out))) hk), Kd.freshB (g := gb179) (o := .cells #[.int .i64 a0_0, .slice A0_1 l0_1.length c0_1, .slice A0_2 l0_2.length c0_2] 25 (0, 0)) (by (with_reducible repeat (first | apply bkN | apply bkD | apply bkA)); exact BK179.out) k_ hk, Kd.freshB (g := gb180) (o := .cells #[.int .i64 x181000_3, .slice none 0 0, .slice none 0 0] 25 (0, 0)) (by (with_reducible repeat (first | apply bkN | apply bkD | apply bkA)); exact BK180.out) k_ hk, Kd.freshB (g := gb182) (o := .cells #[.int .i64 2, .slice none 0 0, u183002] 25 (0, 0)) (by (with_reducible repeat (first | apply bkN | apply bkD | apply bkA)); exact BK182.out) k_ hk⟩))
               (case aO => exact (by (with_reducible repeat (first | apply Kd.N_alloc | apply Kd.N_drewN | apply Kd.N_drew)); exact Kd.N_mono HO_183002.out (fun _ hk => ⟨hk.1.1.1.1, ⟨hk.1.1.1.2.1, ⟨hk.1.1.1.2.2.1, hk.1.1.1.2.2.2⟩⟩⟩)))
               (case aS => exact (below_size (by repeat (first | (with_reducible first | exact HB.out | apply blA | apply blN | apply blD | refine bS ?_ GE179.out | refine bS ?_ GE180.out | refine bS ?_ GE182.out) | exact HB.out))))
               (case aL => have := LMc63.out; omega)
               intro v217 w71 ho hb hg hat
               rw [← Ny216.out] at ho
               have n0_ := aM (blk_grown (g := gb179) (o := .cells #[.int .i64 a0_0, .slice A0_1 l0_1.length c0_1, .slice A0_2 l0_2.length c0_2] 25 (0, 0)) (by (with_reducible repeat (first | apply bkN | apply bkD | apply bkA)); exact BK179.out) hg (Kd.N_away HO_183002.out (fun _ hk => hk.1.1.1.2.1)))
               have n1_ := aM (blk_grown (g := gb180) (o := .cells #[.int .i64 x181000_3, .slice none 0 0, .slice none 0 0] 25 (0, 0)) (by (with_reducible repeat (first | apply bkN | apply bkD | apply bkA)); exact BK180.out) hg (Kd.N_away HO_183002.out (fun _ hk => hk.1.1.1.2.2.1)))
               have n2_ := aM (blk_grown (g := gb182) (o := .cells #[.int .i64 2, .slice none 0 0, u183002] 25 (0, 0)) (by (with_reducible repeat (first | apply bkN | apply bkD | apply bkA)); exact BK182.out) hg (Kd.N_away HO_183002.out (fun _ hk => hk.1.1.1.2.2.2)))
               have n3_ := aM (hb)
               have n4_ := aM (ho)
               clear BK179
               clear BK180
               clear BK182
               clear HB
               clear HO_183002
               clear HO215
               have BK179 := n0_
               have BK180 := n1_
               have BK182 := n2_
               have HB := n3_
               have HO218 := n4_
               clear n0_ n1_ n2_ n3_ n4_
               clear ho hb hg hat
               obtain ⟨Ao72, co72, eo72⟩ := Kd.N_slice HO218.out
               (first | subst eo72 | (injection eo72 with f1_ f2_ f3_; have f4_ := f1_.symm; have f5_ := f3_.symm; clear f1_ f2_ f3_; subst f4_; subst f5_))
               refine hK.out _ _ ⟨(blk_cell BK182.out 0).trans rfl, (blk_cell BK182.out 1).trans rfl, (blk_cell BK182.out 2).trans rfl, (blk_cell BK179.out 0).trans rfl, (blk_cell BK179.out 1).trans rfl, (blk_cell BK179.out 2).trans rfl⟩ (fun hHeld => ?_)
               clear hK K
               refine norm_ (a' := ?_) ?_ ?_
               rotate_left
               · show Act.put _ (some 80) _ = _
                 simp only [Act.put, List.setIfInBounds_toArray, List.set_cons_zero, List.set_cons_succ, i64_w, i32_w]
                 rfl
               refine pure_ (i := 9) (N := some 81) (v := ?_) (a' := ?_) #[true, true, true, true, true, true, true, true, true, true, false] rfl rfl (any_of HT_.out (by kernel_rfl)) (fun _ _ _ h => h) (Or.inl ⟨by rfl, ?_⟩) ?_ ?_
               rotate_left
               · intro w'
                 go_simp
                 with_reducible rfl
               rotate_left
               · simp only [Act.put, List.setIfInBounds_toArray, List.set_cons_zero, List.set_cons_succ, i64_w, i32_w]
                 rfl
               refine last_ (i := 10) (N := none) #[true, true, true, true, true, true, true, true, true, true, true] rfl rfl (one_of HT_.out (by kernel_rfl)) (by decide) (fun K hK => ?_)
               have hs73 : w71.cell? ⟨gb182, 2, none⟩ = some (u183002) := (blk_cell BK182.out 2).trans rfl
               have hfs73 := bF BK182.out 2
               have hns73_0 := NB179_182.out
               have hns73_1 := NB180_182.out
               have hms73_0 := NB182_179.out
               have hms73_1 := NB182_180.out
               refine skip_ (w1 := ?_) (by rfl) rfl ?_ ?_
               rotate_left
               · go_simp
                 rfl
               refine hK.out _ _ ?_
               clear hK K
               refine done_ (done_of HT_.out (by kernel_rfl)) ?_
               try go_wp2
               go_roundg k4
               case measure => have := HJ3.out; have := HK2.out; have := HJ44.out; have := HK4.out; omega
               case rel => exact ⟨(wrap64 (x70_4 + 1)), (y216), (.slice Ao72 y216.length co72), (by first | rfl | (simp; done) | (simp [*]; done)), H', ⟨by have := HJ3.out; have := HK2.out; have := HJ44.out; have := HK4.out; omega⟩, ⟨by (with_reducible repeat (first | apply Kd.N_alloc | apply Kd.N_drewN | apply Kd.N_drew)); exact Kd.N_mono (Kd.N_far (p := ⟨gb182, 2, none⟩) (Kd.N_mono HO218.out (fun k_ hk => (⟨hk, hk.2.2.2⟩ : _ ∧ k_ ≠ gb182))) (fun _ hk => hk.2) (.slice Ao72 y216.length co72)) (fun _ hk => ⟨hk.1.1, ⟨hk.1.2.1, ⟨hk.1.2.2.1, hk.1.2.2.2⟩⟩⟩)⟩, ⟨by (with_reducible repeat (first | apply bkN | apply bkD | apply bkA)); refine blk_far ?_ NB179_182.out _; (with_reducible repeat (first | apply bkN | apply bkD | apply bkA)); exact BK179.out⟩, ⟨by (with_reducible repeat (first | apply bkN | apply bkD | apply bkA)); refine blk_far ?_ NB180_182.out _; (with_reducible repeat (first | apply bkN | apply bkD | apply bkA)); exact BK180.out⟩, ⟨by (with_reducible repeat (first | apply bkN | apply bkD | apply bkA)); refine blk_put (cs := #[.int .i64 2, .slice none 0 0, u183002]) ?_ 2 _ rfl; (with_reducible repeat (first | apply bkN | apply bkD | apply bkA)); exact BK182.out⟩, ⟨by repeat (first | (with_reducible first | exact HB.out | apply blA | apply blN | apply blD | refine bS ?_ GE179.out | refine bS ?_ GE180.out | refine bS ?_ GE182.out) | exact HB.out)⟩⟩
             · rw [if_neg c63] at H
               exact absurd H (by simp)
           · rw [if_neg c61] at H
             have c61b0 : decide (x70_4 < ji60) = false := decide_eq_false c61
             clear c61
             replace H := Option.bind_eq_some_iff.mp H
             obtain ⟨t219, A740, H⟩ := H
             replace H : (if t219 = true then (some (2, ([] : List (S66)), x183002_4, 0)) else (some (0, ([] : List (S66)), ([] : List (S25)), 6))) = some (r1, r2, r3, r4) := H
             have A74 := aM A740
             clear A740
             by_cases c75 : t219 = true
             · subst c75
               have H1 : (some (2, ([] : List (S66)), x183002_4, 0)) = some (r1, r2, r3, r4) := by rw [if_pos rfl] at H; exact H
               clear H
               have H := H1
               clear H1
               simp only [Option.some.injEq, Prod.mk.injEq] at H
               obtain ⟨rfl, rfl, rfl, rfl⟩ := H
               have hnb76 := NB182_179.out
               have hnc76 := NB179_182.out
               have hnb77 := NB182_180.out
               have hnc77 := NB180_182.out
               have hcz78_0 : wr.cell? ⟨gb182, 0, none⟩ = some (.int .i64 2) := (blk_cell BK182.out 0).trans rfl
               have hcz78_1 : wr.cell? ⟨gb182, 1, none⟩ = some (.slice none 0 0) := (blk_cell BK182.out 1).trans rfl
               have hcz78_2 : wr.cell? ⟨gb182, 2, none⟩ = some (u183002) := (blk_cell BK182.out 2).trans rfl
               have hfz78_0 := bF BK182.out 0
               have hfz78_1 := bF BK182.out 1
               have hfz78_2 := bF BK182.out 2
               obtain ⟨Ao79, co79, eo79⟩ := Kd.N_slice HO_183002.out
               subst eo79
               go_wp2_with (first | ((with_reducible refine gate_callee (f := 16) rfl ?_); refine goesL_ (some 84) rfl rfl Try.func16 (by kernel_rfl) rfl #[.agg #[.int .i64 2, .slice none 0 0, .slice Ao79 x183002_4.length co79]] rfl (by (try simp only [List.map_toArray, List.map_cons, List.map_nil]); first | done | rfl | (simp only [List.length_drop, List.length_take]; rfl)) ?_; (refine (pat_Right.calls k4 2 _ _ ([] : List (S66)) _ _ x183002_4 true _ ?side1 ?side2 ?side3 ?side4 A74.out).mono ?_); (case side1 => exact Kd.C_nil _ _); (case side2 => exact Nat.le_refl _); (case side3 => repeat (first | exact (Kd.N_reads' HO_183002.out).2.2 | (with_reducible refine Kd.C_alloc ?_ _) | (with_reducible refine Kd.C_drewN ?_ _) | (with_reducible refine Kd.C_drew ?_))); (case side4 => exact (Kd.N_reads' HO_183002.out).2.1); rintro e w80 ⟨rfl, hb⟩; refine ⟨_, rfl, ?_⟩; have n0_ := aM (Kd.N_below (by (with_reducible repeat (first | apply Kd.N_alloc | apply Kd.N_drewN | apply Kd.N_drew)); exact HO_183002.out) hb); have n1_ := aM (blk_below (g := gb179) (o := .cells #[.int .i64 a0_0, .slice A0_1 l0_1.length c0_1, .slice A0_2 l0_2.length c0_2] 25 (0, 0)) (by (with_reducible repeat (first | apply bkN | apply bkD | apply bkA)); exact BK179.out) hb); have n2_ := aM (blk_below (g := gb180) (o := .cells #[.int .i64 x181000_3, .slice none 0 0, .slice none 0 0] 25 (0, 0)) (by (with_reducible repeat (first | apply bkN | apply bkD | apply bkA)); exact BK180.out) hb); have n3_ := aM (blk_below (g := gb182) (o := .cells #[.int .i64 2, .slice none 0 0, .slice Ao79 x183002_4.length co79] 25 (0, 0)) (by (with_reducible repeat (first | apply bkN | apply bkD | apply bkA)); exact BK182.out) hb); have n4_ := aM (below_step (by repeat (first | (with_reducible first | exact HB.out | apply blA | apply blN | apply blD | refine bS ?_ GE179.out | refine bS ?_ GE180.out | refine bS ?_ GE182.out) | exact HB.out)) hb); clear HO_183002; clear BK179; clear BK180; clear BK182; clear HB; have HO_183002 := n0_; have BK179 := n1_; have BK180 := n2_; have BK182 := n3_; have HB := n4_; clear n0_ n1_ n2_ n3_ n4_; (try clear hb); (try clear hb2); (try clear hk); (try clear hi); have hcz81_0 : w80.cell? ⟨gb182, 0, none⟩ = some (.int .i64 2) := (blk_cell BK182.out 0).trans rfl; have hcz81_1 : w80.cell? ⟨gb182, 1, none⟩ = some (.slice none 0 0) := (blk_cell BK182.out 1).trans rfl; have hcz81_2 : w80.cell? ⟨gb182, 2, none⟩ = some (.slice Ao79 x183002_4.length co79) := (blk_cell BK182.out 2).trans rfl; have hfz81_0 := bF BK182.out 0; have hfz81_1 := bF BK182.out 1; have hfz81_2 := bF BK182.out 2; have hnb82 := NB180_179.out; have hnc82 := NB179_180.out; have hcz83_0 : w80.cell? ⟨gb180, 0, none⟩ = some (.int .i64 x181000_3) := (blk_cell BK180.out 0).trans rfl; have hcz83_1 : w80.cell? ⟨gb180, 1, none⟩ = some (.slice none 0 0) := (blk_cell BK180.out 1).trans rfl; have hcz83_2 : w80.cell? ⟨gb180, 2, none⟩ = some (.slice none 0 0) := (blk_cell BK180.out 2).trans rfl; have hfz83_0 := bF BK180.out 0; have hfz83_1 := bF BK180.out 1; have hfz83_2 := bF BK180.out 2))
               refine bodyPost_ret (results_ct rfl _ _ gb180 25 #[.int .i64 2, .slice none 0 0, .slice Ao79 x183002_4.length co79] (0, 0) _ rfl (by (with_reducible repeat (first | apply bkN | apply bkD | apply bkA)); refine blk_put (cs := #[.int .i64 2, .slice none 0 0, .slice none 0 0]) ?_ 2 _ rfl; (with_reducible repeat (first | apply bkN | apply bkD | apply bkA)); refine blk_put (cs := #[.int .i64 2, .slice none 0 0, .slice none 0 0]) ?_ 1 _ rfl; (with_reducible repeat (first | apply bkN | apply bkD | apply bkA)); refine blk_put (cs := #[.int .i64 x181000_3, .slice none 0 0, .slice none 0 0]) ?_ 0 _ rfl; (with_reducible repeat (first | apply bkN | apply bkD | apply bkA)); exact BK180.out) Try.underlying25 rfl (by kernel_rfl)) rfl ?_
               exact ⟨_, _, by first | rfl | (simp [errW_none, errW_some] <;> rfl) | (simp only [← hji59, ← hji60]; first | rfl | (simp [errW_none, errW_some] <;> rfl)) | (simp [*, errW_none, errW_some] <;> rfl), by first | exact Kd.R_nil _ _ _ _ _ | exact Kd.N_nil _ _ _ _ _ | exact Kd.V_nil _ _ _ _ _ | exact Kd.Q_nil _ _ _ _ _ | exact Kd.S_nil _ _ _ _ _, by (with_reducible repeat (first | apply Kd.N_alloc | apply Kd.N_drewN | apply Kd.N_drew)); exact Kd.N_mono (Kd.N_far (p := ⟨gb180, 2, none⟩) (Kd.N_far (p := ⟨gb180, 1, none⟩) (Kd.N_far (p := ⟨gb180, 0, none⟩) (Kd.N_mono HO_183002.out (fun k_ hk => (⟨hk, hk.2.2.1⟩ : _ ∧ k_ ≠ gb180))) (fun _ hk => hk.2) (.int .i64 2)) (fun _ hk => hk.2) (.slice none 0 0)) (fun _ hk => hk.2) (.slice Ao79 x183002_4.length co79)) (fun _ hk => ⟨hk.1.1, (by simp [Value.ownBlock])⟩), by repeat (first | (with_reducible first | exact HB.out | apply blA | apply blN | apply blD | refine bS ?_ GE179.out | refine bS ?_ GE180.out | refine bS ?_ GE182.out) | exact HB.out)⟩
             · replace c75 := Bool.eq_false_iff.mpr c75
               subst c75
               have H1 : (some (0, ([] : List (S66)), ([] : List (S25)), 6)) = some (r1, r2, r3, r4) := by rw [if_neg (show ¬ (false = true) by decide)] at H; exact H
               clear H
               have H := H1
               clear H1
               simp only [Option.some.injEq, Prod.mk.injEq] at H
               obtain ⟨rfl, rfl, rfl, rfl⟩ := H
               have hnb84 := NB182_179.out
               have hnc84 := NB179_182.out
               have hnb85 := NB182_180.out
               have hnc85 := NB180_182.out
               have hcz86_0 : wr.cell? ⟨gb182, 0, none⟩ = some (.int .i64 2) := (blk_cell BK182.out 0).trans rfl
               have hcz86_1 : wr.cell? ⟨gb182, 1, none⟩ = some (.slice none 0 0) := (blk_cell BK182.out 1).trans rfl
               have hcz86_2 : wr.cell? ⟨gb182, 2, none⟩ = some (u183002) := (blk_cell BK182.out 2).trans rfl
               have hfz86_0 := bF BK182.out 0
               have hfz86_1 := bF BK182.out 1
               have hfz86_2 := bF BK182.out 2
               obtain ⟨Ao87, co87, eo87⟩ := Kd.N_slice HO_183002.out
               subst eo87
               go_wp2_with (first | ((with_reducible refine gate_callee (f := 16) rfl ?_); refine goesL_ (some 84) rfl rfl Try.func16 (by kernel_rfl) rfl #[.agg #[.int .i64 2, .slice none 0 0, .slice Ao87 x183002_4.length co87]] rfl (by (try simp only [List.map_toArray, List.map_cons, List.map_nil]); first | done | rfl | (simp only [List.length_drop, List.length_take]; rfl)) ?_; (refine (pat_Right.calls k4 2 _ _ ([] : List (S66)) _ _ x183002_4 false _ ?side1 ?side2 ?side3 ?side4 A74.out).mono ?_); (case side1 => exact Kd.C_nil _ _); (case side2 => exact Nat.le_refl _); (case side3 => repeat (first | exact (Kd.N_reads' HO_183002.out).2.2 | (with_reducible refine Kd.C_alloc ?_ _) | (with_reducible refine Kd.C_drewN ?_ _) | (with_reducible refine Kd.C_drew ?_))); (case side4 => exact (Kd.N_reads' HO_183002.out).2.1); rintro e w88 ⟨rfl, hb⟩; refine ⟨_, rfl, ?_⟩; have n0_ := aM (Kd.N_below (by (with_reducible repeat (first | apply Kd.N_alloc | apply Kd.N_drewN | apply Kd.N_drew)); exact HO_183002.out) hb); have n1_ := aM (blk_below (g := gb179) (o := .cells #[.int .i64 a0_0, .slice A0_1 l0_1.length c0_1, .slice A0_2 l0_2.length c0_2] 25 (0, 0)) (by (with_reducible repeat (first | apply bkN | apply bkD | apply bkA)); exact BK179.out) hb); have n2_ := aM (blk_below (g := gb180) (o := .cells #[.int .i64 x181000_3, .slice none 0 0, .slice none 0 0] 25 (0, 0)) (by (with_reducible repeat (first | apply bkN | apply bkD | apply bkA)); exact BK180.out) hb); have n3_ := aM (blk_below (g := gb182) (o := .cells #[.int .i64 2, .slice none 0 0, .slice Ao87 x183002_4.length co87] 25 (0, 0)) (by (with_reducible repeat (first | apply bkN | apply bkD | apply bkA)); exact BK182.out) hb); have n4_ := aM (below_step (by repeat (first | (with_reducible first | exact HB.out | apply blA | apply blN | apply blD | refine bS ?_ GE179.out | refine bS ?_ GE180.out | refine bS ?_ GE182.out) | exact HB.out)) hb); clear HO_183002; clear BK179; clear BK180; clear BK182; clear HB; have HO_183002 := n0_; have BK179 := n1_; have BK180 := n2_; have BK182 := n3_; have HB := n4_; clear n0_ n1_ n2_ n3_ n4_; (try clear hb); (try clear hb2); (try clear hk); (try clear hi); have hnb89 := NB180_179.out; have hnc89 := NB179_180.out; have hcz90_0 : w88.cell? ⟨gb180, 0, none⟩ = some (.int .i64 x181000_3) := (blk_cell BK180.out 0).trans rfl; have hcz90_1 : w88.cell? ⟨gb180, 1, none⟩ = some (.slice none 0 0) := (blk_cell BK180.out 1).trans rfl; have hcz90_2 : w88.cell? ⟨gb180, 2, none⟩ = some (.slice none 0 0) := (blk_cell BK180.out 2).trans rfl; have hfz90_0 := bF BK180.out 0; have hfz90_1 := bF BK180.out 1; have hfz90_2 := bF BK180.out 2))
               refine bodyPost_ret (results_ct rfl _ _ gb180 25 #[.int .i64 0, .slice none 0 0, .slice none 0 0] (0, 0) _ rfl (by (with_reducible repeat (first | apply bkN | apply bkD | apply bkA)); refine blk_put (cs := #[.int .i64 0, .slice none 0 0, .slice none 0 0]) ?_ 2 _ rfl; (with_reducible repeat (first | apply bkN | apply bkD | apply bkA)); refine blk_put (cs := #[.int .i64 0, .slice none 0 0, .slice none 0 0]) ?_ 1 _ rfl; (with_reducible repeat (first | apply bkN | apply bkD | apply bkA)); refine blk_put (cs := #[.int .i64 x181000_3, .slice none 0 0, .slice none 0 0]) ?_ 0 _ rfl; (with_reducible repeat (first | apply bkN | apply bkD | apply bkA)); exact BK180.out) Try.underlying25 rfl (by kernel_rfl)) rfl ?_
               exact ⟨_, _, by first | rfl | (simp [errW_none, errW_some] <;> rfl) | (simp only [← hji59, ← hji60]; first | rfl | (simp [errW_none, errW_some] <;> rfl)) | (simp [*, errW_none, errW_some] <;> rfl), by first | exact Kd.R_nil _ _ _ _ _ | exact Kd.N_nil _ _ _ _ _ | exact Kd.V_nil _ _ _ _ _ | exact Kd.Q_nil _ _ _ _ _ | exact Kd.S_nil _ _ _ _ _, by first | exact Kd.R_nil _ _ _ _ _ | exact Kd.N_nil _ _ _ _ _ | exact Kd.V_nil _ _ _ _ _ | exact Kd.Q_nil _ _ _ _ _ | exact Kd.S_nil _ _ _ _ _, by repeat (first | (with_reducible first | exact HB.out | apply blA | apply blN | apply blD | refine bS ?_ GE179.out | refine bS ?_ GE180.out | refine bS ?_ GE182.out) | exact HB.out)⟩
end Go.Proofs.Ytlkjfjlmjgkheaa.G
