import Derived.Test.YtlkjfjlmjgkheaaHx0
import Derived.Test.YtlkjfjlmjgkheaaHx4
import Derived.Test.YtlkjfjlmjgkheaaHx9
namespace Go.Proofs.Ytlkjfjlmjgkheaa.H
open Go.RowKit Go.Proofs.YtlkjfjlmjgkheaaW.PrintWords Go.Proofs.YtlkjfjlmjgkheaaW.PrintLast Go.Proofs.YtlkjfjlmjgkheaaW.PrintMore
attribute [local go_sem] max2_int min2_int max_two min_two max_three min_three max_four min_four
set_option linter.unusedVariables false
set_option linter.unusedSimpArgs false
attribute [local go_sem high] eqA71
mutual
def pat_ends.l0 : Nat → List Int → Int → Int → Int → List (S66) → List (S25) → Int → Int → Int → Int → Int → Int → Int → Int → Option (Int × Int × Int × Int)
 | 0, _, _, _, _, _, _, _, _, _, _, _, _, _, _ => none
 | k + 1, x19, x20, x21, x116000, x116001, x116002, x117000, x117001, x117002, x117003, x119000, x119001, x119002, x119003 => if x21 < x20 then (if 0 ≤ x21 then (if x21 < (x19.length : Int) then ((pat_places_has.f x117000 x117001 x117002 x117003 x21).bind fun t120 => (if t120 = true then ((span_In.f x116001 (rd x19 x21)).bind fun t121 => (if t121 = true then ((pat_places_put.f x119000 x119001 x119002 x119003 (wrap64 (x21 + 1))).bind fun bt122 => (pat_ends.l0 k x19 x20 (wrap64 (x21 + 1)) x116000 x116001 x116002 x117000 x117001 x117002 x117003 bt122.1 bt122.2.1 bt122.2.2.1 bt122.2.2.2)) else (pat_ends.l0 k x19 x20 (wrap64 (x21 + 1)) x116000 x116001 x116002 x117000 x117001 x117002 x117003 x119000 x119001 x119002 x119003))) else (pat_ends.l0 k x19 x20 (wrap64 (x21 + 1)) x116000 x116001 x116002 x117000 x117001 x117002 x117003 x119000 x119001 x119002 x119003))) else (none)) else (none)) else (some (x119000, x119001, x119002, x119003))
def pat_ends.l1 : Nat → List Int → List (S25) → Int → Int → Int → Int → Int → Int → Option (Int × Int × Int × Int)
 | 0, _, _, _, _, _, _, _, _ => none
 | k + 1, x1, x43, x44, x45, x119000, x119001, x119002, x119003 => if x45 < x44 then (if 0 ≤ x45 then (if x45 < (x43.length : Int) then ((pat_ends.f k ((rd_T25 x43 x45).f0) ((rd_T25 x43 x45).f1) ((rd_T25 x43 x45).f2) x1 x119000 x119001 x119002 x119003).bind fun bt128 => (pat_ends.l1 k x1 x43 x44 (wrap64 (x45 + 1)) bt128.1 bt128.2.1 bt128.2.2.1 bt128.2.2.2)) else (none)) else (none)) else (some (x119000, x119001, x119002, x119003))
def pat_ends.l2 : Nat → List Int → List (S25) → Int → Int → Int → Int → Int → Int → Int → Int → Int → Int → Option (Int × Int × Int × Int)
 | 0, _, _, _, _, _, _, _, _, _, _, _, _ => none
 | k + 1, x1, x57, x58, x59, x117000, x117001, x117002, x117003, x119000, x119001, x119002, x119003 => if x59 < x58 then (if 0 ≤ x59 then (if x59 < (x57.length : Int) then ((pat_ends.f k ((rd_T25 x57 x59).f0) ((rd_T25 x57 x59).f1) ((rd_T25 x57 x59).f2) x1 x117000 x117001 x117002 x117003).bind fun bt134 => ((pat_places_with.f x119000 x119001 x119002 x119003 bt134.1 bt134.2.1 bt134.2.2.1 bt134.2.2.2).bind fun bt138 => (pat_ends.l2 k x1 x57 x58 (wrap64 (x59 + 1)) x117000 x117001 x117002 x117003 bt138.1 bt138.2.1 bt138.2.2.1 bt138.2.2.2))) else (none)) else (none)) else (some (x119000, x119001, x119002, x119003))
def pat_ends.l3 : Nat → List Int → Int → List (S66) → List (S25) → Int → Int → Int → Int → Option (Int × Int × Int × Int)
 | 0, _, _, _, _, _, _, _, _ => none
 | k + 1, x1, x116000, x116001, x116002, x119000, x119001, x119002, x119003 => if 0 < (x116002.length : Int) then ((pat_ends.f k ((rd_T25 x116002 0).f0) ((rd_T25 x116002 0).f1) ((rd_T25 x116002 0).f2) x1 x119000 x119001 x119002 x119003).bind fun bt143 => ((pat_places_with.f x119000 x119001 x119002 x119003 bt143.1 bt143.2.1 bt143.2.2.1 bt143.2.2.2).bind fun bt147 => (if (bt147.1 == x119000 && (bt147.2.1 == x119001 && (bt147.2.2.1 == x119002 && (bt147.2.2.2 == x119003)))) = true then (some (x119000, x119001, x119002, x119003)) else (pat_ends.l3 k x1 x116000 x116001 x116002 bt147.1 bt147.2.1 bt147.2.2.1 bt147.2.2.2)))) else (none)
def pat_ends.f : Nat → Int → List (S66) → List (S25) → List Int → Int → Int → Int → Int → Option (Int × Int × Int × Int)
 | 0, _, _, _, _, _, _, _, _ => none
 | k + 1, a0_0, l0_1, l0_2, l1, a2_0, a2_1, a2_2, a2_3 => if a0_0 = 1 then (pat_ends.l0 k l1 (l1.length : Int) 0 a0_0 l0_1 l0_2 a2_0 a2_1 a2_2 a2_3 0 0 0 0) else (if a0_0 = 2 then (pat_ends.l1 k l1 l0_2 (l0_2.length : Int) 0 a2_0 a2_1 a2_2 a2_3) else (if a0_0 = 3 then (pat_ends.l2 k l1 l0_2 (l0_2.length : Int) 0 a2_0 a2_1 a2_2 a2_3 0 0 0 0) else (if a0_0 = 4 then (pat_ends.l3 k l1 a0_0 l0_1 l0_2 a2_0 a2_1 a2_2 a2_3) else (some (0, 0, 0, 0)))))
end
theorem pat_ends.mono_l : ∀ k, (∀ y0 y1 y2 y3 y4 y5 y6 y7, LeO (pat_ends.f k y0 y1 y2 y3 y4 y5 y6 y7) (pat_ends.f (k + 1) y0 y1 y2 y3 y4 y5 y6 y7)) ∧ (∀ y0 y1 y2 y3 y4 y5 y6 y7 y8 y9 y10 y11 y12 y13, LeO (pat_ends.l0 k y0 y1 y2 y3 y4 y5 y6 y7 y8 y9 y10 y11 y12 y13) (pat_ends.l0 (k + 1) y0 y1 y2 y3 y4 y5 y6 y7 y8 y9 y10 y11 y12 y13)) ∧ (∀ y0 y1 y2 y3 y4 y5 y6 y7, LeO (pat_ends.l1 k y0 y1 y2 y3 y4 y5 y6 y7) (pat_ends.l1 (k + 1) y0 y1 y2 y3 y4 y5 y6 y7)) ∧ (∀ y0 y1 y2 y3 y4 y5 y6 y7 y8 y9 y10 y11, LeO (pat_ends.l2 k y0 y1 y2 y3 y4 y5 y6 y7 y8 y9 y10 y11) (pat_ends.l2 (k + 1) y0 y1 y2 y3 y4 y5 y6 y7 y8 y9 y10 y11)) ∧ (∀ y0 y1 y2 y3 y4 y5 y6 y7, LeO (pat_ends.l3 k y0 y1 y2 y3 y4 y5 y6 y7) (pat_ends.l3 (k + 1) y0 y1 y2 y3 y4 y5 y6 y7))
 | 0 => ⟨fun _ _ _ _ _ _ _ _ r h => by simp [pat_ends.f] at h, fun _ _ _ _ _ _ _ _ _ _ _ _ _ _ r h => by simp [pat_ends.l0] at h, fun _ _ _ _ _ _ _ _ r h => by simp [pat_ends.l1] at h, fun _ _ _ _ _ _ _ _ _ _ _ _ r h => by simp [pat_ends.l2] at h, fun _ _ _ _ _ _ _ _ r h => by simp [pat_ends.l3] at h⟩
 | k + 1 => by
  obtain ⟨ih0, ih1, ih2, ih3, ih4⟩ := pat_ends.mono_l k
  refine ⟨?_, ?_, ?_, ?_, ?_⟩
  · intro y0 y1 y2 y3 y4 y5 y6 y7
    unfold pat_ends.f
    repeat' first
    | (with_reducible exact ih0 _ _ _ _ _ _ _ _)
    | (with_reducible exact ih1 _ _ _ _ _ _ _ _ _ _ _ _ _ _)
    | (with_reducible exact ih2 _ _ _ _ _ _ _ _)
    | (with_reducible exact ih3 _ _ _ _ _ _ _ _ _ _ _ _)
    | (with_reducible exact ih4 _ _ _ _ _ _ _ _)
    | (with_reducible exact LeO.refl _)
    | (with_reducible exact LeO.none _)
    | (with_reducible refine LeO.ite ?_ ?_)
    | (with_reducible refine LeO.bind ?_ (fun _ => ?_))
    | exact ih0 _ _ _ _ _ _ _ _
    | exact ih1 _ _ _ _ _ _ _ _ _ _ _ _ _ _
    | exact ih2 _ _ _ _ _ _ _ _
    | exact ih3 _ _ _ _ _ _ _ _ _ _ _ _
    | exact ih4 _ _ _ _ _ _ _ _
    | exact LeO.none _
    | refine LeO.ite ?_ ?_
    | refine LeO.bind ?_ (fun _ => ?_)
  · intro y0 y1 y2 y3 y4 y5 y6 y7 y8 y9 y10 y11 y12 y13
    unfold pat_ends.l0
    repeat' first
    | (with_reducible exact ih0 _ _ _ _ _ _ _ _)
    | (with_reducible exact ih1 _ _ _ _ _ _ _ _ _ _ _ _ _ _)
    | (with_reducible exact ih2 _ _ _ _ _ _ _ _)
    | (with_reducible exact ih3 _ _ _ _ _ _ _ _ _ _ _ _)
    | (with_reducible exact ih4 _ _ _ _ _ _ _ _)
    | (with_reducible exact LeO.refl _)
    | (with_reducible exact LeO.none _)
    | (with_reducible refine LeO.ite ?_ ?_)
    | (with_reducible refine LeO.bind ?_ (fun _ => ?_))
    | exact ih0 _ _ _ _ _ _ _ _
    | exact ih1 _ _ _ _ _ _ _ _ _ _ _ _ _ _
    | exact ih2 _ _ _ _ _ _ _ _
    | exact ih3 _ _ _ _ _ _ _ _ _ _ _ _
    | exact ih4 _ _ _ _ _ _ _ _
    | exact LeO.none _
    | refine LeO.ite ?_ ?_
    | refine LeO.bind ?_ (fun _ => ?_)
  · intro y0 y1 y2 y3 y4 y5 y6 y7
    unfold pat_ends.l1
    repeat' first
    | (with_reducible exact ih0 _ _ _ _ _ _ _ _)
    | (with_reducible exact ih1 _ _ _ _ _ _ _ _ _ _ _ _ _ _)
    | (with_reducible exact ih2 _ _ _ _ _ _ _ _)
    | (with_reducible exact ih3 _ _ _ _ _ _ _ _ _ _ _ _)
    | (with_reducible exact ih4 _ _ _ _ _ _ _ _)
    | (with_reducible exact LeO.refl _)
    | (with_reducible exact LeO.none _)
    | (with_reducible refine LeO.ite ?_ ?_)
    | (with_reducible refine LeO.bind ?_ (fun _ => ?_))
    | exact ih0 _ _ _ _ _ _ _ _
    | exact ih1 _ _ _ _ _ _ _ _ _ _ _ _ _ _
    | exact ih2 _ _ _ _ _ _ _ _
    | exact ih3 _ _ _ _ _ _ _ _ _ _ _ _
    | exact ih4 _ _ _ _ _ _ _ _
    | exact LeO.none _
    | refine LeO.ite ?_ ?_
    | refine LeO.bind ?_ (fun _ => ?_)
  · intro y0 y1 y2 y3 y4 y5 y6 y7 y8 y9 y10 y11
    unfold pat_ends.l2
    repeat' first
    | (with_reducible exact ih0 _ _ _ _ _ _ _ _)
    | (with_reducible exact ih1 _ _ _ _ _ _ _ _ _ _ _ _ _ _)
    | (with_reducible exact ih2 _ _ _ _ _ _ _ _)
    | (with_reducible exact ih3 _ _ _ _ _ _ _ _ _ _ _ _)
    | (with_reducible exact ih4 _ _ _ _ _ _ _ _)
    | (with_reducible exact LeO.refl _)
    | (with_reducible exact LeO.none _)
    | (with_reducible refine LeO.ite ?_ ?_)
    | (with_reducible refine LeO.bind ?_ (fun _ => ?_))
    | exact ih0 _ _ _ _ _ _ _ _
    | exact ih1 _ _ _ _ _ _ _ _ _ _ _ _ _ _
    | exact ih2 _ _ _ _ _ _ _ _
    | exact ih3 _ _ _ _ _ _ _ _ _ _ _ _
    | exact ih4 _ _ _ _ _ _ _ _
    | exact LeO.none _
    | refine LeO.ite ?_ ?_
    | refine LeO.bind ?_ (fun _ => ?_)
  · intro y0 y1 y2 y3 y4 y5 y6 y7
    unfold pat_ends.l3
    repeat' first
    | (with_reducible exact ih0 _ _ _ _ _ _ _ _)
    | (with_reducible exact ih1 _ _ _ _ _ _ _ _ _ _ _ _ _ _)
    | (with_reducible exact ih2 _ _ _ _ _ _ _ _)
    | (with_reducible exact ih3 _ _ _ _ _ _ _ _ _ _ _ _)
    | (with_reducible exact ih4 _ _ _ _ _ _ _ _)
    | (with_reducible exact LeO.refl _)
    | (with_reducible exact LeO.none _)
    | (with_reducible refine LeO.ite ?_ ?_)
    | (with_reducible refine LeO.bind ?_ (fun _ => ?_))
    | exact ih0 _ _ _ _ _ _ _ _
    | exact ih1 _ _ _ _ _ _ _ _ _ _ _ _ _ _
    | exact ih2 _ _ _ _ _ _ _ _
    | exact ih3 _ _ _ _ _ _ _ _ _ _ _ _
    | exact ih4 _ _ _ _ _ _ _ _
    | exact LeO.none _
    | refine LeO.ite ?_ ?_
    | refine LeO.bind ?_ (fun _ => ?_)
theorem pat_ends.mono : ∀ a0 a1 a2 a3 a4 a5 a6 a7 k, LeO (pat_ends.f k a0 a1 a2 a3 a4 a5 a6 a7) (pat_ends.f (k + 1) a0 a1 a2 a3 a4 a5 a6 a7) := by
 intro a0 a1 a2 a3 a4 a5 a6 a7 k
 obtain ⟨ih0, ih1, ih2, ih3, ih4⟩ := pat_ends.mono_l k
 exact ih0 a0 a1 a2 a3 a4 a5 a6 a7
def pat_ends.T25 : Bool × List (List Nat × List Nat) := (true, [([], []), ([], []), ([1], [1]), ([2], [2]), ([3], [3]), ([], []), ([], []), ([4, 5, 6], [4, 5, 6]), ([0, 7, 7], [0, 7]), ([], []), ([9, 8, 8, 0, 1, 2, 3, 4, 5, 6, 7, 8, 9], [8, 9])])
def pat_ends.B25 : List Nat := [0, 0, 2, 6, 14, 0, 0, 126, 255, 0, 1023]
theorem pat_ends.tab25 : rtab .any (opsOf Try.f46 25) = pat_ends.T25 := by kernel_rfl
theorem pat_ends.bits25 : waitsOk pat_ends.T25.2 pat_ends.B25 = true := by kernel_rfl
set_option maxHeartbeats 8000000 in
set_option maxRecDepth 100000 in
theorem pat_ends.calls (k : Nat) : ∀ (a0_0 : Int) (A0_1 : Option Addr) (c0_1 : Nat) (l0_1 : List (S66)) (A0_2 : Option Addr) (c0_2 : Nat) (l0_2 : List (S25)) (A1 : Option Addr) (c1 : Nat) (l1 : List Int) (a2_0 : Int) (a2_1 : Int) (a2_2 : Int) (a2_3 : Int) (r1 : Int) (r2 : Int) (r3 : Int) (r4 : Int) (w : World) (hr0_1 : Kd.C k66 w A0_1 l0_1.length l0_1) (hc0_1 : l0_1.length ≤ c0_1) (hr0_2 : Kd.C k25 w A0_2 l0_2.length l0_2) (hc0_2 : l0_2.length ≤ c0_2) (hr1 : Kd.C (Kd.int .u32) w A1 l1.length l1) (hc1 : l1.length ≤ c1) (h : pat_ends.f k a0_0 l0_1 l0_2 l1 a2_0 a2_1 a2_2 a2_3 = some (r1, r2, r3, r4)),
 Calls Try.prog 46 #[.agg #[.int .i64 a0_0, .slice A0_1 l0_1.length c0_1, .slice A0_2 l0_2.length c0_2], .slice A1 l1.length c1, .agg #[.int .u64 a2_0, .int .u64 a2_1, .int .u64 a2_2, .int .u64 a2_3]] w fun e w' => e = .returned (.agg #[.int .u64 r1, .int .u64 r2, .int .u64 r3, .int .u64 r4]) ∧ Below w.heap.size w w' := by
 induction k using Nat.strongRecOn with
 | _ k ih =>
 intro a0_0 A0_1 c0_1 l0_1 A0_2 c0_2 l0_2 A1 c1 l1 a2_0 a2_1 a2_2 a2_3 r1 r2 r3 r4 w hr0_1 hc0_1 hr0_2 hc0_2 hr1 hc1 h
 cases k with
 | zero => exact absurd h (by simp [pat_ends.f])
 | succ k =>
 simp only [pat_ends.f] at h
 have hu25 := Try.underlying25
 have hu71 := Try.underlying71
 have HR0_1 := aM hr0_1
 have HC0_1 := aM hc0_1
 clear hr0_1 hc0_1
 have HR0_2 := aM hr0_2
 have HC0_2 := aM hc0_2
 clear hr0_2 hc0_2
 have HR1 := aM hr1
 have HC1 := aM hc1
 clear hr1 hc1
 have HB := aM (Below.refl w.heap.size w)
 have H : (if a0_0 = 1 then (pat_ends.l0 k l1 (l1.length : Int) 0 a0_0 l0_1 l0_2 a2_0 a2_1 a2_2 a2_3 0 0 0 0) else (if a0_0 = 2 then (pat_ends.l1 k l1 l0_2 (l0_2.length : Int) 0 a2_0 a2_1 a2_2 a2_3) else (if a0_0 = 3 then (pat_ends.l2 k l1 l0_2 (l0_2.length : Int) 0 a2_0 a2_1 a2_2 a2_3 0 0 0 0) else (if a0_0 = 4 then (pat_ends.l3 k l1 a0_0 l0_1 l0_2 a2_0 a2_1 a2_2 a2_3) else (some (0, 0, 0, 0)))))) = some (r1, r2, r3, r4) := h
 clear h
 by_cases c4 : a0_0 = 1
 · rw [if_pos c4] at H
   have c4b0 : (a0_0 == 1) = true := beq_iff_eq.mpr c4
   have c4b1 : (a0_0 != 1) = false := bne_eq_false_iff_eq.mpr c4
   clear c4
   have H' := aM H
   clear H
   go_enter Try.func46, Try.ntmps46
   go_wp2_with (first | ((with_reducible refine gd_ 3 rfl ?_); refine be_ #[.int .i64 a0_0, .slice A0_1 l0_1.length c0_1, .slice A0_2 l0_2.length c0_2] 25 ?_; intro gb115 hg w5 BK115 hb; have GW115 := ge_ HB hg; have GE115 := ge_ HB hg; replace HB := bs_ HB hb; clear hb hg) | ((with_reducible refine gd_ 5 rfl ?_); refine be_ #[.int .u64 a2_0, .int .u64 a2_1, .int .u64 a2_2, .int .u64 a2_3] 71 ?_; intro gb116 hg w6 BK116 hb; have GW116 := ge_ HB hg; have GE116 := ge_ HB hg; have NB115_116 := nl_ BK115 hg; have NB116_115 := ng_ BK115 hg; replace BK115 := bb_ BK115 hb; replace HB := bs_ HB hb; clear hb hg) | ((with_reducible refine gd_ 6 rfl ?_); refine be_ #[.int .u64 0, .int .u64 0, .int .u64 0, .int .u64 0] 71 ?_; intro gb117 hg w7 BK117 hb; have GW117 := ge_ HB hg; have GE117 := ge_ HB hg; have NB115_117 := nl_ BK115 hg; have NB117_115 := ng_ BK115 hg; have NB116_117 := nl_ BK116 hg; have NB117_116 := ng_ BK116 hg; replace BK115 := bb_ BK115 hb; replace BK116 := bb_ BK116 hb; replace HB := bs_ HB hb; clear hb hg) | ((with_reducible refine gd_ 7 rfl ?_); refine be_ #[.int .u64 0, .int .u64 0, .int .u64 0, .int .u64 0] 71 ?_; intro gb118 hg w8 BK118 hb; have GW118 := ge_ HB hg; have GE118 := ge_ HB hg; have NB115_118 := nl_ BK115 hg; have NB118_115 := ng_ BK115 hg; have NB116_118 := nl_ BK116 hg; have NB118_116 := ng_ BK116 hg; have NB117_118 := nl_ BK117 hg; have NB118_117 := ng_ BK117 hg; replace BK115 := bb_ BK115 hb; replace BK116 := bb_ BK116 hb; replace BK117 := bb_ BK117 hb; replace HB := bs_ HB hb; clear hb hg; have hnb9 := NB115_116.out; have hnc9 := NB116_115.out; have hnb10 := NB115_117.out; have hnc10 := NB117_115.out; have hnb11 := NB115_118.out; have hnc11 := NB118_115.out; obtain ⟨hcz12_0, hcz12_1, hcz12_2, hfz12_0, hfz12_1, hfz12_2⟩ := bc3_ BK115))
   repeat (go_step3; try go_wp2_with (fail))
   go_loopg [21] k (fun kq v21 w' => ∃ (x21_1 : Int) (x119000_1 : Int) (x119001_1 : Int) (x119002_1 : Int) (x119003_1 : Int), v21 = .int .i64 x21_1 ∧ Aside0 (pat_ends.l0 kq l1 (l1.length : Int) x21_1 a0_0 l0_1 l0_2 a2_0 a2_1 a2_2 a2_3 x119000_1 x119001_1 x119002_1 x119003_1 = some (r1, r2, r3, r4)) ∧ Aside0 (kq ≤ k) ∧ Aside0 (w'.heap[gb115]? = some (.cells #[.int .i64 a0_0, (.slice A0_1 l0_1.length c0_1), (.slice A0_2 l0_2.length c0_2)] 25 (0, 0))) ∧ Aside0 (w'.heap[gb116]? = some (.cells #[.int .u64 a2_0, .int .u64 a2_1, .int .u64 a2_2, .int .u64 a2_3] 71 (0, 0))) ∧ Aside0 (w'.heap[gb117]? = some (.cells #[.int .u64 0, .int .u64 0, .int .u64 0, .int .u64 0] 71 (0, 0))) ∧ Aside0 (w'.heap[gb118]? = some (.cells #[.int .u64 x119000_1, .int .u64 x119001_1, .int .u64 x119002_1, .int .u64 x119003_1] 71 (0, 0))) ∧ Aside0 (Below w.heap.size w w'))
   case atStart => exact ⟨(0), (0), (0), (0), (0), rf_, H', ⟨Nat.le_refl _⟩, ⟨ub_ BK115.out⟩, ⟨ub_ BK116.out⟩, ⟨ub_ BK117.out⟩, ⟨ub_ BK118.out⟩, ⟨bw_ HB.out⟩⟩
   case round =>
    clear H'
    obtain ⟨x21_1, x119000_1, x119001_1, x119002_1, x119003_1, rfl, HA, HK1, BK115, BK116, BK117, BK118, HB⟩ := hrel
    cases gk with
    | zero => exact absurd HA.out (by simp [pat_ends.l0])
    | succ k1 =>
     have H := HA.out
     clear HA
     simp only [pat_ends.l0] at H
     by_cases c13 : x21_1 < (l1.length : Int)
     rotate_left
     · rw [if_neg c13] at H
       have c13b0 : decide (x21_1 < (l1.length : Int)) = false := decide_eq_false c13
       clear c13
       simp only [Option.some.injEq, Prod.mk.injEq] at H
       obtain ⟨rfl, rfl, rfl, rfl⟩ := H
       have hnb45 := NB118_115.out
       have hnc45 := NB115_118.out
       have hnb46 := NB118_116.out
       have hnc46 := NB116_118.out
       have hnb47 := NB118_117.out
       have hnc47 := NB117_118.out
       obtain ⟨hcz48_0, hcz48_1, hcz48_2, hcz48_3, hfz48_0, hfz48_1, hfz48_2, hfz48_3⟩ := bc4_ BK118
       have hnb49 := NB117_115.out
       have hnc49 := NB115_117.out
       have hnb50 := NB117_116.out
       have hnc50 := NB116_117.out
       obtain ⟨hcz51_0, hcz51_1, hcz51_2, hcz51_3, hfz51_0, hfz51_1, hfz51_2, hfz51_3⟩ := bc4_ BK117
       go_wp2
       repeat (go_step3; try go_wp2_with (fail))
       refine bodyPost_ret (results_cell_row rfl _ _ gb117 71 #[.int .u64 x119000_1, .int .u64 x119001_1, .int .u64 x119002_1, .int .u64 x119003_1] (0, 0) _ rfl (ub_ BK117.out) Try.underlying71 rfl (by kernel_rfl)) rfl ?_
       exact fin_ HB
     rw [if_pos c13] at H
     have c13b0 : decide (x21_1 < (l1.length : Int)) = true := decide_eq_true c13
     clear c13
     have c14 := ifn_ H
     rw [if_pos c14] at H
     have c14b0 : decide (0 ≤ x21_1) = true := decide_eq_true c14
     clear c14
     have c15 := ifn_ H
     rw [if_pos c15] at H
     have c15b0 : decide (x21_1 < (l1.length : Int)) = true := decide_eq_true c15
     clear c15
     obtain ⟨t120, A16, H⟩ := bnd_ H
     by_cases c17 : t120 = true
     rotate_left
     · replace c17 := Bool.eq_false_iff.mpr c17
       subst c17
       rw [if_neg (show ¬ (false = true) by decide)] at H
       have H' := aM H
       clear H
       have p119 : 0 ≤ (x21_1 : Int) := od_
       have q119 : x21_1 < (l1.length : Int) := od_
       obtain ⟨ad119, e119, hx119_0⟩ := Kd.at_int HR1.out x21_1 p119 q119
       cases e119
       replace hx119_0 := hx_ HB hx119_0
       replace p119 := eq_true p119
       replace q119 := eq_true q119
       have hnb40 := NB116_115.out
       have hnc40 := NB115_116.out
       have hnb41 := NB116_117.out
       have hnc41 := NB117_116.out
       have hnb42 := NB116_118.out
       have hnc42 := NB118_116.out
       obtain ⟨hcz43_0, hcz43_1, hcz43_2, hcz43_3, hfz43_0, hfz43_1, hfz43_2, hfz43_3⟩ := bc4_ BK116
       go_wp2_with (first | ((with_reducible refine gf_ 47 rfl ?_); refine gL_ (some 28) rfl rfl Try.func47 #[.agg #[.int .u64 a2_0, .int .u64 a2_1, .int .u64 a2_2, .int .u64 a2_3], .int .i64 x21_1] rfl ?_; (with_reducible refine (pat_places_has.calls a2_0 a2_1 a2_2 a2_3 x21_1 false _ A16.out).mono ?_); rintro e w44 ⟨rfl, hb⟩; refine ⟨_, rfl, ?_⟩; replace BK115 := bb_ BK115 hb; replace BK116 := bb_ BK116 hb; replace BK117 := bb_ BK117 hb; replace BK118 := bb_ BK118 hb; replace HB := bs_ HB hb; clear hb))
       repeat (go_step3; try go_wp2_with (fail))
       go_roundg k1
       case measure => have := HK1.out; omega
       case rel => exact ⟨(wrap64 (x21_1 + 1)), (x119000_1), (x119001_1), (x119002_1), (x119003_1), rf_, H', ⟨by have := HK1.out; omega⟩, ⟨ub_ BK115.out⟩, ⟨ub_ BK116.out⟩, ⟨ub_ BK117.out⟩, ⟨ub_ BK118.out⟩, ⟨bw_ HB.out⟩⟩
     subst c17
     rw [if_pos rfl] at H
     obtain ⟨t121, A18, H⟩ := bnd_ H
     by_cases c19 : t121 = true
     rotate_left
     · replace c19 := Bool.eq_false_iff.mpr c19
       subst c19
       rw [if_neg (show ¬ (false = true) by decide)] at H
       have H' := aM H
       clear H
       have p119 : 0 ≤ (x21_1 : Int) := od_
       have q119 : x21_1 < (l1.length : Int) := od_
       obtain ⟨ad119, e119, hx119_0⟩ := Kd.at_int HR1.out x21_1 p119 q119
       cases e119
       replace hx119_0 := hx_ HB hx119_0
       replace p119 := eq_true p119
       replace q119 := eq_true q119
       have hnb31 := NB116_115.out
       have hnc31 := NB115_116.out
       have hnb32 := NB116_117.out
       have hnc32 := NB117_116.out
       have hnb33 := NB116_118.out
       have hnc33 := NB118_116.out
       obtain ⟨hcz34_0, hcz34_1, hcz34_2, hcz34_3, hfz34_0, hfz34_1, hfz34_2, hfz34_3⟩ := bc4_ BK116
       go_wp2_with (first | ((with_reducible refine gf_ 47 rfl ?_); refine gL_ (some 28) rfl rfl Try.func47 #[.agg #[.int .u64 a2_0, .int .u64 a2_1, .int .u64 a2_2, .int .u64 a2_3], .int .i64 x21_1] rfl ?_; (with_reducible refine (pat_places_has.calls a2_0 a2_1 a2_2 a2_3 x21_1 true _ A16.out).mono ?_); rintro e w35 ⟨rfl, hb⟩; refine ⟨_, rfl, ?_⟩; replace BK115 := bb_ BK115 hb; replace BK116 := bb_ BK116 hb; replace BK117 := bb_ BK117 hb; replace BK118 := bb_ BK118 hb; replace HB := bs_ HB hb; clear hb; have hnb36 := NB115_117.out; have hnc36 := NB117_115.out; have hnb37 := NB115_118.out; have hnc37 := NB118_115.out; obtain ⟨hcz38_0, hcz38_1, hcz38_2, hfz38_0, hfz38_1, hfz38_2⟩ := bc3_ BK115) | (go_at_call 81; (with_reducible refine (span_In.calls _ _ l0_1 (rd l1 x21_1) false _ ?side1 ?side2 A18.out).mono ?_); (case side1 => exact cB_ HR0_1 HB); (case side2 => exact HC0_1.out); rintro e w39 ⟨rfl, hb⟩; replace BK115 := bb_ BK115 hb; replace BK116 := bb_ BK116 hb; replace BK117 := bb_ BK117 hb; replace BK118 := bb_ BK118 hb; replace HB := bs_ HB hb; clear hb))
       repeat (go_step3; try go_wp2_with (fail))
       go_roundg k1
       case measure => have := HK1.out; omega
       case rel => exact ⟨(wrap64 (x21_1 + 1)), (x119000_1), (x119001_1), (x119002_1), (x119003_1), rf_, H', ⟨by have := HK1.out; omega⟩, ⟨ub_ BK115.out⟩, ⟨ub_ BK116.out⟩, ⟨ub_ BK117.out⟩, ⟨ub_ BK118.out⟩, ⟨bw_ HB.out⟩⟩
     subst c19
     rw [if_pos rfl] at H
     obtain ⟨⟨t122, t123, t124, t125⟩, A20, H⟩ := bnd_ H
     dsimp only at H
     have H' := aM H
     clear H
     have p119 : 0 ≤ (x21_1 : Int) := od_
     have q119 : x21_1 < (l1.length : Int) := od_
     obtain ⟨ad119, e119, hx119_0⟩ := Kd.at_int HR1.out x21_1 p119 q119
     cases e119
     replace hx119_0 := hx_ HB hx119_0
     replace p119 := eq_true p119
     replace q119 := eq_true q119
     have hnb21 := NB116_115.out
     have hnc21 := NB115_116.out
     have hnb22 := NB116_117.out
     have hnc22 := NB117_116.out
     have hnb23 := NB116_118.out
     have hnc23 := NB118_116.out
     obtain ⟨hcz24_0, hcz24_1, hcz24_2, hcz24_3, hfz24_0, hfz24_1, hfz24_2, hfz24_3⟩ := bc4_ BK116
     go_wp2_with (first | ((with_reducible refine gf_ 47 rfl ?_); refine gL_ (some 28) rfl rfl Try.func47 #[.agg #[.int .u64 a2_0, .int .u64 a2_1, .int .u64 a2_2, .int .u64 a2_3], .int .i64 x21_1] rfl ?_; (with_reducible refine (pat_places_has.calls a2_0 a2_1 a2_2 a2_3 x21_1 true _ A16.out).mono ?_); rintro e w25 ⟨rfl, hb⟩; refine ⟨_, rfl, ?_⟩; replace BK115 := bb_ BK115 hb; replace BK116 := bb_ BK116 hb; replace BK117 := bb_ BK117 hb; replace BK118 := bb_ BK118 hb; replace HB := bs_ HB hb; clear hb; have hnb26 := NB115_117.out; have hnc26 := NB117_115.out; have hnb27 := NB115_118.out; have hnc27 := NB118_115.out; obtain ⟨hcz28_0, hcz28_1, hcz28_2, hfz28_0, hfz28_1, hfz28_2⟩ := bc3_ BK115) | (go_at_call 81; (with_reducible refine (span_In.calls _ _ l0_1 (rd l1 x21_1) true _ ?side1 ?side2 A18.out).mono ?_); (case side1 => exact cB_ HR0_1 HB); (case side2 => exact HC0_1.out); rintro e w29 ⟨rfl, hb⟩; replace BK115 := bb_ BK115 hb; replace BK116 := bb_ BK116 hb; replace BK117 := bb_ BK117 hb; replace BK118 := bb_ BK118 hb; replace HB := bs_ HB hb; clear hb) | ((with_reducible refine gf_ 45 rfl ?_); refine gL_ (some 37) rfl rfl Try.func45 #[.pointer (some ⟨gb118, 0, none⟩), .int .i64 (wrap64 (x21_1 + 1))] rfl ?_; (with_reducible refine (pat_places_put.calls gb118 x119000_1 x119001_1 x119002_1 x119003_1 (wrap64 (x21_1 + 1)) t122 t123 t124 t125 w _ ?side1 ?side2 A20.out).mono ?_); (case side1 => exact ⟨(ub_ BK118.out), GW118.out⟩); (case side2 => repeat (first | (with_reducible first | exact HB.out | apply blA | apply blN | apply blD | refine bS ?_ GE115.out | refine bS ?_ GE116.out | refine bS ?_ GE117.out | refine bS ?_ GE118.out) | exact HB.out)); rintro e w30 ⟨rfl, hi, hb, hk⟩; refine ⟨_, rfl, ?_⟩; replace BK115 := aM (KeepBut.blk hk (g' := gb115) (o := .cells #[.int .i64 a0_0, .slice A0_1 l0_1.length c0_1, .slice A0_2 l0_2.length c0_2] 25 (0, 0)) (ub_ BK115.out) NB115_118.out (by simp)); replace BK116 := aM (KeepBut.blk hk (g' := gb116) (o := .cells #[.int .u64 a2_0, .int .u64 a2_1, .int .u64 a2_2, .int .u64 a2_3] 71 (0, 0)) (ub_ BK116.out) NB116_118.out (by simp)); replace BK117 := aM (KeepBut.blk hk (g' := gb117) (o := .cells #[.int .u64 0, .int .u64 0, .int .u64 0, .int .u64 0] 71 (0, 0)) (ub_ BK117.out) NB117_118.out (by simp)); replace BK118 := aM (hi.1); replace HB := aM hb; (try clear hb); (try clear hb2); (try clear hk); (try clear hi)))
     repeat (go_step3; try go_wp2_with (fail))
     go_roundg k1
     case measure => have := HK1.out; omega
     case rel => exact ⟨(wrap64 (x21_1 + 1)), (t122), (t123), (t124), (t125), rf_, H', ⟨by have := HK1.out; omega⟩, ⟨ub_ BK115.out⟩, ⟨ub_ BK116.out⟩, ⟨ub_ BK117.out⟩, ⟨ub_ BK118.out⟩, ⟨bw_ HB.out⟩⟩
 rw [if_neg c4] at H
 have c4b0 : (a0_0 == 1) = false := beq_eq_false_iff_ne.mpr c4
 have c4b1 : (a0_0 != 1) = true := bne_iff_ne.mpr c4
 by_cases c52 : a0_0 = 2
 · rw [if_pos c52] at H
   have c52b0 : (a0_0 == 2) = true := beq_iff_eq.mpr c52
   have c52b1 : (a0_0 != 2) = false := bne_eq_false_iff_eq.mpr c52
   clear c52
   have H' := aM H
   clear H
   go_enter Try.func46, Try.ntmps46
   go_wp2_with (first | ((with_reducible refine gd_ 3 rfl ?_); refine be_ #[.int .i64 a0_0, .slice A0_1 l0_1.length c0_1, .slice A0_2 l0_2.length c0_2] 25 ?_; intro gb115 hg w53 BK115 hb; have GW115 := ge_ HB hg; have GE115 := ge_ HB hg; replace HB := bs_ HB hb; clear hb hg) | ((with_reducible refine gd_ 5 rfl ?_); refine be_ #[.int .u64 a2_0, .int .u64 a2_1, .int .u64 a2_2, .int .u64 a2_3] 71 ?_; intro gb116 hg w54 BK116 hb; have GW116 := ge_ HB hg; have GE116 := ge_ HB hg; have NB115_116 := nl_ BK115 hg; have NB116_115 := ng_ BK115 hg; replace BK115 := bb_ BK115 hb; replace HB := bs_ HB hb; clear hb hg) | ((with_reducible refine gd_ 6 rfl ?_); refine be_ #[.int .u64 0, .int .u64 0, .int .u64 0, .int .u64 0] 71 ?_; intro gb117 hg w55 BK117 hb; have GW117 := ge_ HB hg; have GE117 := ge_ HB hg; have NB115_117 := nl_ BK115 hg; have NB117_115 := ng_ BK115 hg; have NB116_117 := nl_ BK116 hg; have NB117_116 := ng_ BK116 hg; replace BK115 := bb_ BK115 hb; replace BK116 := bb_ BK116 hb; replace HB := bs_ HB hb; clear hb hg) | ((with_reducible refine gd_ 7 rfl ?_); refine be_ #[.int .u64 0, .int .u64 0, .int .u64 0, .int .u64 0] 71 ?_; intro gb118 hg w56 BK118 hb; have GW118 := ge_ HB hg; have GE118 := ge_ HB hg; have NB115_118 := nl_ BK115 hg; have NB118_115 := ng_ BK115 hg; have NB116_118 := nl_ BK116 hg; have NB118_116 := ng_ BK116 hg; have NB117_118 := nl_ BK117 hg; have NB118_117 := ng_ BK117 hg; replace BK115 := bb_ BK115 hb; replace BK116 := bb_ BK116 hb; replace BK117 := bb_ BK117 hb; replace HB := bs_ HB hb; clear hb hg; have hnb57 := NB115_116.out; have hnc57 := NB116_115.out; have hnb58 := NB115_117.out; have hnc58 := NB117_115.out; have hnb59 := NB115_118.out; have hnc59 := NB118_115.out; obtain ⟨hcz60_0, hcz60_1, hcz60_2, hfz60_0, hfz60_1, hfz60_2⟩ := bc3_ BK115; have hnb61 := NB116_117.out; have hnc61 := NB117_116.out; have hnb62 := NB116_118.out; have hnc62 := NB118_116.out; obtain ⟨hcz63_0, hcz63_1, hcz63_2, hcz63_3, hfz63_0, hfz63_1, hfz63_2, hfz63_3⟩ := bc4_ BK116; have hnb64 := NB118_117.out; have hnc64 := NB117_118.out; obtain ⟨hcz65_0, hcz65_1, hcz65_2, hcz65_3, hfz65_0, hfz65_1, hfz65_2, hfz65_3⟩ := bc4_ BK118))
   repeat (go_step3; try go_wp2_with (fail))
   go_loopg [45] k (fun kq v45 w' => ∃ (x45_1 : Int) (x119000_1 : Int) (x119001_1 : Int) (x119002_1 : Int) (x119003_1 : Int), v45 = .int .i64 x45_1 ∧ Aside0 (pat_ends.l1 kq l1 l0_2 (l0_2.length : Int) x45_1 x119000_1 x119001_1 x119002_1 x119003_1 = some (r1, r2, r3, r4)) ∧ Aside0 (kq ≤ k) ∧ Aside0 (w'.heap[gb115]? = some (.cells #[.int .i64 a0_0, (.slice A0_1 l0_1.length c0_1), (.slice A0_2 l0_2.length c0_2)] 25 (0, 0))) ∧ Aside0 (w'.heap[gb116]? = some (.cells #[.int .u64 a2_0, .int .u64 a2_1, .int .u64 a2_2, .int .u64 a2_3] 71 (0, 0))) ∧ Aside0 (w'.heap[gb117]? = some (.cells #[.int .u64 0, .int .u64 0, .int .u64 0, .int .u64 0] 71 (0, 0))) ∧ Aside0 (w'.heap[gb118]? = some (.cells #[.int .u64 x119000_1, .int .u64 x119001_1, .int .u64 x119002_1, .int .u64 x119003_1] 71 (0, 0))) ∧ Aside0 (Below w.heap.size w w'))
   case atStart => exact ⟨(0), (a2_0), (a2_1), (a2_2), (a2_3), rf_, H', ⟨Nat.le_refl _⟩, ⟨by (with_reducible repeat (first | apply bkN | apply bkD | apply bkA)); refine blk_far ?_ NB115_118.out _; (with_reducible repeat (first | apply bkN | apply bkD | apply bkA)); refine blk_far ?_ NB115_118.out _; (with_reducible repeat (first | apply bkN | apply bkD | apply bkA)); refine blk_far ?_ NB115_118.out _; (with_reducible repeat (first | apply bkN | apply bkD | apply bkA)); refine blk_far ?_ NB115_118.out _; (with_reducible repeat (first | apply bkN | apply bkD | apply bkA)); exact BK115.out⟩, ⟨by (with_reducible repeat (first | apply bkN | apply bkD | apply bkA)); refine blk_far ?_ NB116_118.out _; (with_reducible repeat (first | apply bkN | apply bkD | apply bkA)); refine blk_far ?_ NB116_118.out _; (with_reducible repeat (first | apply bkN | apply bkD | apply bkA)); refine blk_far ?_ NB116_118.out _; (with_reducible repeat (first | apply bkN | apply bkD | apply bkA)); refine blk_far ?_ NB116_118.out _; (with_reducible repeat (first | apply bkN | apply bkD | apply bkA)); exact BK116.out⟩, ⟨by (with_reducible repeat (first | apply bkN | apply bkD | apply bkA)); refine blk_far ?_ NB117_118.out _; (with_reducible repeat (first | apply bkN | apply bkD | apply bkA)); refine blk_far ?_ NB117_118.out _; (with_reducible repeat (first | apply bkN | apply bkD | apply bkA)); refine blk_far ?_ NB117_118.out _; (with_reducible repeat (first | apply bkN | apply bkD | apply bkA)); refine blk_far ?_ NB117_118.out _; (with_reducible repeat (first | apply bkN | apply bkD | apply bkA)); exact BK117.out⟩, ⟨by (with_reducible repeat (first | apply bkN | apply bkD | apply bkA)); refine blk_put (cs := #[.int .u64 a2_0, .int .u64 a2_1, .int .u64 a2_2, .int .u64 0]) ?_ 3 _ rfl; (with_reducible repeat (first | apply bkN | apply bkD | apply bkA)); refine blk_put (cs := #[.int .u64 a2_0, .int .u64 a2_1, .int .u64 0, .int .u64 0]) ?_ 2 _ rfl; (with_reducible repeat (first | apply bkN | apply bkD | apply bkA)); refine blk_put (cs := #[.int .u64 a2_0, .int .u64 0, .int .u64 0, .int .u64 0]) ?_ 1 _ rfl; (with_reducible repeat (first | apply bkN | apply bkD | apply bkA)); refine blk_put (cs := #[.int .u64 0, .int .u64 0, .int .u64 0, .int .u64 0]) ?_ 0 _ rfl; (with_reducible repeat (first | apply bkN | apply bkD | apply bkA)); exact BK118.out⟩, ⟨bw_ HB.out⟩⟩
   case round =>
    clear H'
    obtain ⟨x45_1, x119000_1, x119001_1, x119002_1, x119003_1, rfl, HA, HK1, BK115, BK116, BK117, BK118, HB⟩ := hrel
    cases gk with
    | zero => exact absurd HA.out (by simp [pat_ends.l1])
    | succ k1 =>
     have H := HA.out
     clear HA
     simp only [pat_ends.l1] at H
     by_cases c66 : x45_1 < (l0_2.length : Int)
     rotate_left
     · rw [if_neg c66] at H
       have c66b0 : decide (x45_1 < (l0_2.length : Int)) = false := decide_eq_false c66
       clear c66
       simp only [Option.some.injEq, Prod.mk.injEq] at H
       obtain ⟨rfl, rfl, rfl, rfl⟩ := H
       have hnb82 := NB118_115.out
       have hnc82 := NB115_118.out
       have hnb83 := NB118_116.out
       have hnc83 := NB116_118.out
       have hnb84 := NB118_117.out
       have hnc84 := NB117_118.out
       obtain ⟨hcz85_0, hcz85_1, hcz85_2, hcz85_3, hfz85_0, hfz85_1, hfz85_2, hfz85_3⟩ := bc4_ BK118
       have hnb86 := NB117_115.out
       have hnc86 := NB115_117.out
       have hnb87 := NB117_116.out
       have hnc87 := NB116_117.out
       obtain ⟨hcz88_0, hcz88_1, hcz88_2, hcz88_3, hfz88_0, hfz88_1, hfz88_2, hfz88_3⟩ := bc4_ BK117
       go_wp2
       repeat (go_step3; try go_wp2_with (fail))
       refine bodyPost_ret (results_cell_row rfl _ _ gb117 71 #[.int .u64 x119000_1, .int .u64 x119001_1, .int .u64 x119002_1, .int .u64 x119003_1] (0, 0) _ rfl (ub_ BK117.out) Try.underlying71 rfl (by kernel_rfl)) rfl ?_
       exact fin_ HB
     rw [if_pos c66] at H
     have c66b0 : decide (x45_1 < (l0_2.length : Int)) = true := decide_eq_true c66
     clear c66
     have c67 := ifn_ H
     rw [if_pos c67] at H
     have c67b0 : decide (0 ≤ x45_1) = true := decide_eq_true c67
     clear c67
     have c68 := ifn_ H
     rw [if_pos c68] at H
     have c68b0 : decide (x45_1 < (l0_2.length : Int)) = true := decide_eq_true c68
     clear c68
     obtain ⟨⟨t128, t129, t130, t131⟩, A69, H⟩ := bnd_ H
     dsimp only at H
     have H' := aM H
     clear H
     have p126 : 0 ≤ (x45_1 : Int) := od_
     have q126 : x45_1 < (l0_2.length : Int) := od_
     obtain ⟨ad126, A126_1, c126_1, A126_2, c126_2, e126, hx126_0, hx126_1, hx126_2, hl126_1, hi126_1, hl126_2, hi126_2⟩ := at_T25 HR0_2.out x45_1 p126 q126
     cases e126
     replace hx126_0 := hx_ HB hx126_0
     replace hx126_1 := hx_ HB hx126_1
     replace hx126_2 := hx_ HB hx126_2
     have HR126_1 := aM hi126_1
     have HC126_1 := aM hl126_1
     clear hi126_1 hl126_1
     have HR126_2 := aM hi126_2
     have HC126_2 := aM hl126_2
     clear hi126_2 hl126_2
     replace p126 := eq_true p126
     replace q126 := eq_true q126
     go_wp2_with (first | ((with_reducible refine gd_ 11 rfl ?_); refine be_ #[.int .i64 0, .slice none 0 0, .slice none 0 0] 25 ?_; intro gb127 hg w70 BK127 hb; have GW127 := ge_ HB hg; have GE127 := ge_ HB hg; have NB115_127 := nl_ BK115 hg; have NB127_115 := ng_ BK115 hg; have NB116_127 := nl_ BK116 hg; have NB127_116 := ng_ BK116 hg; have NB117_127 := nl_ BK117 hg; have NB127_117 := ng_ BK117 hg; have NB118_127 := nl_ BK118 hg; have NB127_118 := ng_ BK118 hg; replace BK115 := bb_ BK115 hb; replace BK116 := bb_ BK116 hb; replace BK117 := bb_ BK117 hb; replace BK118 := bb_ BK118 hb; replace HB := bs_ HB hb; clear hb hg; have hnb71 := NB127_115.out; have hnc71 := NB115_127.out; have hnb72 := NB127_116.out; have hnc72 := NB116_127.out; have hnb73 := NB127_117.out; have hnc73 := NB117_127.out; have hnb74 := NB127_118.out; have hnc74 := NB118_127.out; obtain ⟨hcz75_0, hcz75_1, hcz75_2, hfz75_0, hfz75_1, hfz75_2⟩ := bc3_ BK127; have hnb76 := NB118_115.out; have hnc76 := NB115_118.out; have hnb77 := NB118_116.out; have hnc77 := NB116_118.out; have hnb78 := NB118_117.out; have hnc78 := NB117_118.out; obtain ⟨hcz79_0, hcz79_1, hcz79_2, hcz79_3, hfz79_0, hfz79_1, hfz79_2, hfz79_3⟩ := bc4_ BK118) | ((with_reducible refine gf_ 46 rfl ?_); refine gL_ (some 52) rfl rfl Try.func46 #[.agg #[.int .i64 ((rd_T25 l0_2 x45_1).f0), .slice A126_1 ((rd_T25 l0_2 x45_1).f1).length c126_1, .slice A126_2 ((rd_T25 l0_2 x45_1).f2).length c126_2], .slice A1 l1.length c1, .agg #[.int .u64 x119000_1, .int .u64 x119001_1, .int .u64 x119002_1, .int .u64 x119003_1]] rfl ?_; (with_reducible refine (ih k1 (by have := HK1.out; omega) ((rd_T25 l0_2 x45_1).f0) _ _ ((rd_T25 l0_2 x45_1).f1) _ _ ((rd_T25 l0_2 x45_1).f2) _ _ l1 x119000_1 x119001_1 x119002_1 x119003_1 t128 t129 t130 t131 _ ?side1 ?side2 ?side3 ?side4 ?side5 ?side6 A69.out).mono ?_); (case side1 => exact cB_ HR126_1 HB); (case side2 => exact HC126_1.out); (case side3 => exact cB_ HR126_2 HB); (case side4 => exact HC126_2.out); (case side5 => exact cB_ HR1 HB); (case side6 => exact HC1.out); rintro e w80 ⟨rfl, hb⟩; refine ⟨_, rfl, ?_⟩; replace BK115 := bb_ BK115 hb; replace BK116 := bb_ BK116 hb; replace BK117 := bb_ BK117 hb; replace BK118 := bb_ BK118 hb; replace BK127 := bp_ (.cells #[.int .i64 ((rd_T25 l0_2 x45_1).f0), .slice A126_1 ((rd_T25 l0_2 x45_1).f1).length c126_1, .slice A126_2 ((rd_T25 l0_2 x45_1).f2).length c126_2] 25 (0, 0)) BK127 hb; replace HB := bs_ HB hb; clear hb; obtain ⟨hcz81_0, hcz81_1, hcz81_2, hcz81_3, hfz81_0, hfz81_1, hfz81_2, hfz81_3⟩ := bc4_ BK118))
     repeat (go_step3; try go_wp2_with (fail))
     go_roundg k1
     case measure => have := HK1.out; omega
     case rel => exact ⟨(wrap64 (x45_1 + 1)), (t128), (t129), (t130), (t131), rf_, H', ⟨by have := HK1.out; omega⟩, ⟨by (with_reducible repeat (first | apply bkN | apply bkD | apply bkA)); refine blk_far ?_ NB115_118.out _; (with_reducible repeat (first | apply bkN | apply bkD | apply bkA)); refine blk_far ?_ NB115_118.out _; (with_reducible repeat (first | apply bkN | apply bkD | apply bkA)); refine blk_far ?_ NB115_118.out _; (with_reducible repeat (first | apply bkN | apply bkD | apply bkA)); refine blk_far ?_ NB115_118.out _; (with_reducible repeat (first | apply bkN | apply bkD | apply bkA)); exact BK115.out⟩, ⟨by (with_reducible repeat (first | apply bkN | apply bkD | apply bkA)); refine blk_far ?_ NB116_118.out _; (with_reducible repeat (first | apply bkN | apply bkD | apply bkA)); refine blk_far ?_ NB116_118.out _; (with_reducible repeat (first | apply bkN | apply bkD | apply bkA)); refine blk_far ?_ NB116_118.out _; (with_reducible repeat (first | apply bkN | apply bkD | apply bkA)); refine blk_far ?_ NB116_118.out _; (with_reducible repeat (first | apply bkN | apply bkD | apply bkA)); exact BK116.out⟩, ⟨by (with_reducible repeat (first | apply bkN | apply bkD | apply bkA)); refine blk_far ?_ NB117_118.out _; (with_reducible repeat (first | apply bkN | apply bkD | apply bkA)); refine blk_far ?_ NB117_118.out _; (with_reducible repeat (first | apply bkN | apply bkD | apply bkA)); refine blk_far ?_ NB117_118.out _; (with_reducible repeat (first | apply bkN | apply bkD | apply bkA)); refine blk_far ?_ NB117_118.out _; (with_reducible repeat (first | apply bkN | apply bkD | apply bkA)); exact BK117.out⟩, ⟨by (with_reducible repeat (first | apply bkN | apply bkD | apply bkA)); refine blk_put (cs := #[.int .u64 t128, .int .u64 t129, .int .u64 t130, .int .u64 x119003_1]) ?_ 3 _ rfl; (with_reducible repeat (first | apply bkN | apply bkD | apply bkA)); refine blk_put (cs := #[.int .u64 t128, .int .u64 t129, .int .u64 x119002_1, .int .u64 x119003_1]) ?_ 2 _ rfl; (with_reducible repeat (first | apply bkN | apply bkD | apply bkA)); refine blk_put (cs := #[.int .u64 t128, .int .u64 x119001_1, .int .u64 x119002_1, .int .u64 x119003_1]) ?_ 1 _ rfl; (with_reducible repeat (first | apply bkN | apply bkD | apply bkA)); refine blk_put (cs := #[.int .u64 x119000_1, .int .u64 x119001_1, .int .u64 x119002_1, .int .u64 x119003_1]) ?_ 0 _ rfl; (with_reducible repeat (first | apply bkN | apply bkD | apply bkA)); exact BK118.out⟩, ⟨bw_ HB.out⟩⟩
 rw [if_neg c52] at H
 have c52b0 : (a0_0 == 2) = false := beq_eq_false_iff_ne.mpr c52
 have c52b1 : (a0_0 != 2) = true := bne_iff_ne.mpr c52
 by_cases c89 : a0_0 = 3
 · rw [if_pos c89] at H
   have c89b0 : (a0_0 == 3) = true := beq_iff_eq.mpr c89
   have c89b1 : (a0_0 != 3) = false := bne_eq_false_iff_eq.mpr c89
   clear c89
   have H' := aM H
   clear H
   go_enter Try.func46, Try.ntmps46
   go_wp2_with (first | ((with_reducible refine gd_ 3 rfl ?_); refine be_ #[.int .i64 a0_0, .slice A0_1 l0_1.length c0_1, .slice A0_2 l0_2.length c0_2] 25 ?_; intro gb115 hg w90 BK115 hb; have GW115 := ge_ HB hg; have GE115 := ge_ HB hg; replace HB := bs_ HB hb; clear hb hg) | ((with_reducible refine gd_ 5 rfl ?_); refine be_ #[.int .u64 a2_0, .int .u64 a2_1, .int .u64 a2_2, .int .u64 a2_3] 71 ?_; intro gb116 hg w91 BK116 hb; have GW116 := ge_ HB hg; have GE116 := ge_ HB hg; have NB115_116 := nl_ BK115 hg; have NB116_115 := ng_ BK115 hg; replace BK115 := bb_ BK115 hb; replace HB := bs_ HB hb; clear hb hg) | ((with_reducible refine gd_ 6 rfl ?_); refine be_ #[.int .u64 0, .int .u64 0, .int .u64 0, .int .u64 0] 71 ?_; intro gb117 hg w92 BK117 hb; have GW117 := ge_ HB hg; have GE117 := ge_ HB hg; have NB115_117 := nl_ BK115 hg; have NB117_115 := ng_ BK115 hg; have NB116_117 := nl_ BK116 hg; have NB117_116 := ng_ BK116 hg; replace BK115 := bb_ BK115 hb; replace BK116 := bb_ BK116 hb; replace HB := bs_ HB hb; clear hb hg) | ((with_reducible refine gd_ 7 rfl ?_); refine be_ #[.int .u64 0, .int .u64 0, .int .u64 0, .int .u64 0] 71 ?_; intro gb118 hg w93 BK118 hb; have GW118 := ge_ HB hg; have GE118 := ge_ HB hg; have NB115_118 := nl_ BK115 hg; have NB118_115 := ng_ BK115 hg; have NB116_118 := nl_ BK116 hg; have NB118_116 := ng_ BK116 hg; have NB117_118 := nl_ BK117 hg; have NB118_117 := ng_ BK117 hg; replace BK115 := bb_ BK115 hb; replace BK116 := bb_ BK116 hb; replace BK117 := bb_ BK117 hb; replace HB := bs_ HB hb; clear hb hg; have hnb94 := NB115_116.out; have hnc94 := NB116_115.out; have hnb95 := NB115_117.out; have hnc95 := NB117_115.out; have hnb96 := NB115_118.out; have hnc96 := NB118_115.out; obtain ⟨hcz97_0, hcz97_1, hcz97_2, hfz97_0, hfz97_1, hfz97_2⟩ := bc3_ BK115))
   repeat (go_step3; try go_wp2_with (fail))
   go_loopg [59] k (fun kq v59 w' => ∃ (x59_1 : Int) (x119000_1 : Int) (x119001_1 : Int) (x119002_1 : Int) (x119003_1 : Int), v59 = .int .i64 x59_1 ∧ Aside0 (pat_ends.l2 kq l1 l0_2 (l0_2.length : Int) x59_1 a2_0 a2_1 a2_2 a2_3 x119000_1 x119001_1 x119002_1 x119003_1 = some (r1, r2, r3, r4)) ∧ Aside0 (kq ≤ k) ∧ Aside0 (w'.heap[gb115]? = some (.cells #[.int .i64 a0_0, (.slice A0_1 l0_1.length c0_1), (.slice A0_2 l0_2.length c0_2)] 25 (0, 0))) ∧ Aside0 (w'.heap[gb116]? = some (.cells #[.int .u64 a2_0, .int .u64 a2_1, .int .u64 a2_2, .int .u64 a2_3] 71 (0, 0))) ∧ Aside0 (w'.heap[gb117]? = some (.cells #[.int .u64 0, .int .u64 0, .int .u64 0, .int .u64 0] 71 (0, 0))) ∧ Aside0 (w'.heap[gb118]? = some (.cells #[.int .u64 x119000_1, .int .u64 x119001_1, .int .u64 x119002_1, .int .u64 x119003_1] 71 (0, 0))) ∧ Aside0 (Below w.heap.size w w'))
   case atStart => exact ⟨(0), (0), (0), (0), (0), rf_, H', ⟨Nat.le_refl _⟩, ⟨ub_ BK115.out⟩, ⟨ub_ BK116.out⟩, ⟨ub_ BK117.out⟩, ⟨ub_ BK118.out⟩, ⟨bw_ HB.out⟩⟩
   case round =>
    clear H'
    obtain ⟨x59_1, x119000_1, x119001_1, x119002_1, x119003_1, rfl, HA, HK1, BK115, BK116, BK117, BK118, HB⟩ := hrel
    cases gk with
    | zero => exact absurd HA.out (by simp [pat_ends.l2])
    | succ k1 =>
     have H := HA.out
     clear HA
     simp only [pat_ends.l2] at H
     by_cases c98 : x59_1 < (l0_2.length : Int)
     rotate_left
     · rw [if_neg c98] at H
       have c98b0 : decide (x59_1 < (l0_2.length : Int)) = false := decide_eq_false c98
       clear c98
       simp only [Option.some.injEq, Prod.mk.injEq] at H
       obtain ⟨rfl, rfl, rfl, rfl⟩ := H
       have hnb117 := NB118_115.out
       have hnc117 := NB115_118.out
       have hnb118 := NB118_116.out
       have hnc118 := NB116_118.out
       have hnb119 := NB118_117.out
       have hnc119 := NB117_118.out
       obtain ⟨hcz120_0, hcz120_1, hcz120_2, hcz120_3, hfz120_0, hfz120_1, hfz120_2, hfz120_3⟩ := bc4_ BK118
       have hnb121 := NB117_115.out
       have hnc121 := NB115_117.out
       have hnb122 := NB117_116.out
       have hnc122 := NB116_117.out
       obtain ⟨hcz123_0, hcz123_1, hcz123_2, hcz123_3, hfz123_0, hfz123_1, hfz123_2, hfz123_3⟩ := bc4_ BK117
       go_wp2
       repeat (go_step3; try go_wp2_with (fail))
       refine bodyPost_ret (results_cell_row rfl _ _ gb117 71 #[.int .u64 x119000_1, .int .u64 x119001_1, .int .u64 x119002_1, .int .u64 x119003_1] (0, 0) _ rfl (ub_ BK117.out) Try.underlying71 rfl (by kernel_rfl)) rfl ?_
       exact fin_ HB
     rw [if_pos c98] at H
     have c98b0 : decide (x59_1 < (l0_2.length : Int)) = true := decide_eq_true c98
     clear c98
     have c99 := ifn_ H
     rw [if_pos c99] at H
     have c99b0 : decide (0 ≤ x59_1) = true := decide_eq_true c99
     clear c99
     have c100 := ifn_ H
     rw [if_pos c100] at H
     have c100b0 : decide (x59_1 < (l0_2.length : Int)) = true := decide_eq_true c100
     clear c100
     obtain ⟨⟨t134, t135, t136, t137⟩, A101, H⟩ := bnd_ H
     dsimp only at H
     obtain ⟨⟨t138, t139, t140, t141⟩, A102, H⟩ := bnd_ H
     dsimp only at H
     have H' := aM H
     clear H
     have p132 : 0 ≤ (x59_1 : Int) := od_
     have q132 : x59_1 < (l0_2.length : Int) := od_
     obtain ⟨ad132, A132_1, c132_1, A132_2, c132_2, e132, hx132_0, hx132_1, hx132_2, hl132_1, hi132_1, hl132_2, hi132_2⟩ := at_T25 HR0_2.out x59_1 p132 q132
     cases e132
     replace hx132_0 := hx_ HB hx132_0
     replace hx132_1 := hx_ HB hx132_1
     replace hx132_2 := hx_ HB hx132_2
     have HR132_1 := aM hi132_1
     have HC132_1 := aM hl132_1
     clear hi132_1 hl132_1
     have HR132_2 := aM hi132_2
     have HC132_2 := aM hl132_2
     clear hi132_2 hl132_2
     replace p132 := eq_true p132
     replace q132 := eq_true q132
     try go_wp2_with (first | ((with_reducible refine gd_ 13 rfl ?_); refine be_ #[.int .i64 0, .slice none 0 0, .slice none 0 0] 25 ?_; intro gb133 hg w103 BK133 hb; have GW133 := ge_ HB hg; have GE133 := ge_ HB hg; have NB115_133 := nl_ BK115 hg; have NB133_115 := ng_ BK115 hg; have NB116_133 := nl_ BK116 hg; have NB133_116 := ng_ BK116 hg; have NB117_133 := nl_ BK117 hg; have NB133_117 := ng_ BK117 hg; have NB118_133 := nl_ BK118 hg; have NB133_118 := ng_ BK118 hg; replace BK115 := bb_ BK115 hb; replace BK116 := bb_ BK116 hb; replace BK117 := bb_ BK117 hb; replace BK118 := bb_ BK118 hb; replace HB := bs_ HB hb; clear hb hg; have hnb104 := NB133_115.out; have hnc104 := NB115_133.out; have hnb105 := NB133_116.out; have hnc105 := NB116_133.out; have hnb106 := NB133_117.out; have hnc106 := NB117_133.out; have hnb107 := NB133_118.out; have hnc107 := NB118_133.out; obtain ⟨hcz108_0, hcz108_1, hcz108_2, hfz108_0, hfz108_1, hfz108_2⟩ := bc3_ BK133))
     repeat (go_step3; try go_wp2_with (fail))
     have n0_ : Aside0 ((((w103.setCell ⟨gb133, 0, none⟩ (.int .i64 ((rd_T25 l0_2 x59_1).f0))).setCell ⟨gb133, 1, none⟩ (.slice A132_1 ((rd_T25 l0_2 x59_1).f1).length c132_1)).setCell ⟨gb133, 2, none⟩ (.slice A132_2 ((rd_T25 l0_2 x59_1).f2).length c132_2)).heap[gb115]? = some (.cells #[.int .i64 a0_0, .slice A0_1 l0_1.length c0_1, .slice (some ad132) l0_2.length c0_2] 25 (0, 0))) := ⟨by (with_reducible repeat (first | apply bkN | apply bkD | apply bkA)); refine blk_far ?_ NB115_133.out _; (with_reducible repeat (first | apply bkN | apply bkD | apply bkA)); refine blk_far ?_ NB115_133.out _; (with_reducible repeat (first | apply bkN | apply bkD | apply bkA)); refine blk_far ?_ NB115_133.out _; (with_reducible repeat (first | apply bkN | apply bkD | apply bkA)); exact BK115.out⟩
     have n1_ : Aside0 ((((w103.setCell ⟨gb133, 0, none⟩ (.int .i64 ((rd_T25 l0_2 x59_1).f0))).setCell ⟨gb133, 1, none⟩ (.slice A132_1 ((rd_T25 l0_2 x59_1).f1).length c132_1)).setCell ⟨gb133, 2, none⟩ (.slice A132_2 ((rd_T25 l0_2 x59_1).f2).length c132_2)).heap[gb116]? = some (.cells #[.int .u64 a2_0, .int .u64 a2_1, .int .u64 a2_2, .int .u64 a2_3] 71 (0, 0))) := ⟨by (with_reducible repeat (first | apply bkN | apply bkD | apply bkA)); refine blk_far ?_ NB116_133.out _; (with_reducible repeat (first | apply bkN | apply bkD | apply bkA)); refine blk_far ?_ NB116_133.out _; (with_reducible repeat (first | apply bkN | apply bkD | apply bkA)); refine blk_far ?_ NB116_133.out _; (with_reducible repeat (first | apply bkN | apply bkD | apply bkA)); exact BK116.out⟩
     have n2_ : Aside0 ((((w103.setCell ⟨gb133, 0, none⟩ (.int .i64 ((rd_T25 l0_2 x59_1).f0))).setCell ⟨gb133, 1, none⟩ (.slice A132_1 ((rd_T25 l0_2 x59_1).f1).length c132_1)).setCell ⟨gb133, 2, none⟩ (.slice A132_2 ((rd_T25 l0_2 x59_1).f2).length c132_2)).heap[gb117]? = some (.cells #[.int .u64 0, .int .u64 0, .int .u64 0, .int .u64 0] 71 (0, 0))) := ⟨by (with_reducible repeat (first | apply bkN | apply bkD | apply bkA)); refine blk_far ?_ NB117_133.out _; (with_reducible repeat (first | apply bkN | apply bkD | apply bkA)); refine blk_far ?_ NB117_133.out _; (with_reducible repeat (first | apply bkN | apply bkD | apply bkA)); refine blk_far ?_ NB117_133.out _; (with_reducible repeat (first | apply bkN | apply bkD | apply bkA)); exact BK117.out⟩
     have n3_ : Aside0 ((((w103.setCell ⟨gb133, 0, none⟩ (.int .i64 ((rd_T25 l0_2 x59_1).f0))).setCell ⟨gb133, 1, none⟩ (.slice A132_1 ((rd_T25 l0_2 x59_1).f1).length c132_1)).setCell ⟨gb133, 2, none⟩ (.slice A132_2 ((rd_T25 l0_2 x59_1).f2).length c132_2)).heap[gb118]? = some (.cells #[.int .u64 x119000_1, .int .u64 x119001_1, .int .u64 x119002_1, .int .u64 x119003_1] 71 (0, 0))) := ⟨by (with_reducible repeat (first | apply bkN | apply bkD | apply bkA)); refine blk_far ?_ NB118_133.out _; (with_reducible repeat (first | apply bkN | apply bkD | apply bkA)); refine blk_far ?_ NB118_133.out _; (with_reducible repeat (first | apply bkN | apply bkD | apply bkA)); refine blk_far ?_ NB118_133.out _; (with_reducible repeat (first | apply bkN | apply bkD | apply bkA)); exact BK118.out⟩
     have n4_ : Aside0 ((((w103.setCell ⟨gb133, 0, none⟩ (.int .i64 ((rd_T25 l0_2 x59_1).f0))).setCell ⟨gb133, 1, none⟩ (.slice A132_1 ((rd_T25 l0_2 x59_1).f1).length c132_1)).setCell ⟨gb133, 2, none⟩ (.slice A132_2 ((rd_T25 l0_2 x59_1).f2).length c132_2)).heap[gb133]? = some (.cells #[.int .i64 ((rd_T25 l0_2 x59_1).f0), .slice A132_1 ((rd_T25 l0_2 x59_1).f1).length c132_1, .slice A132_2 ((rd_T25 l0_2 x59_1).f2).length c132_2] 25 (0, 0))) := ⟨by (with_reducible repeat (first | apply bkN | apply bkD | apply bkA)); refine blk_put (cs := #[.int .i64 ((rd_T25 l0_2 x59_1).f0), .slice A132_1 ((rd_T25 l0_2 x59_1).f1).length c132_1, .slice none 0 0]) ?_ 2 _ rfl; (with_reducible repeat (first | apply bkN | apply bkD | apply bkA)); refine blk_put (cs := #[.int .i64 ((rd_T25 l0_2 x59_1).f0), .slice none 0 0, .slice none 0 0]) ?_ 1 _ rfl; (with_reducible repeat (first | apply bkN | apply bkD | apply bkA)); refine blk_put (cs := #[.int .i64 0, .slice none 0 0, .slice none 0 0]) ?_ 0 _ rfl; (with_reducible repeat (first | apply bkN | apply bkD | apply bkA)); exact BK133.out⟩
     have n5_ : Aside0 (Below w.heap.size w (((w103.setCell ⟨gb133, 0, none⟩ (.int .i64 ((rd_T25 l0_2 x59_1).f0))).setCell ⟨gb133, 1, none⟩ (.slice A132_1 ((rd_T25 l0_2 x59_1).f1).length c132_1)).setCell ⟨gb133, 2, none⟩ (.slice A132_2 ((rd_T25 l0_2 x59_1).f2).length c132_2))) := ⟨bw_ HB.out⟩
     (try clear BK115)
     (try clear BK116)
     (try clear BK117)
     (try clear BK118)
     (try clear BK133)
     (try clear HB)
     generalize (((w103.setCell ⟨gb133, 0, none⟩ (.int .i64 ((rd_T25 l0_2 x59_1).f0))).setCell ⟨gb133, 1, none⟩ (.slice A132_1 ((rd_T25 l0_2 x59_1).f1).length c132_1)).setCell ⟨gb133, 2, none⟩ (.slice A132_2 ((rd_T25 l0_2 x59_1).f2).length c132_2)) = w109 at n0_ n1_ n2_ n3_ n4_ n5_ ⊢
     have BK115 := n0_
     have BK116 := n1_
     have BK117 := n2_
     have BK118 := n3_
     have BK133 := n4_
     have HB := n5_
     clear n0_ n1_ n2_ n3_ n4_ n5_
     replace BK115 := aM (blk_drew BK115.out)
     replace BK116 := aM (blk_drew BK116.out)
     replace BK117 := aM (blk_drew BK117.out)
     replace BK118 := aM (blk_drew BK118.out)
     replace BK133 := aM (blk_drew BK133.out)
     replace HB := aM (below_drew1 HB.out)
     refine start_ (n := 7) (S := fun w' => w'.cell? ⟨gb118, 0, none⟩ = some (.int .u64 x119000_1) ∧ w'.cell? ⟨gb118, 1, none⟩ = some (.int .u64 x119001_1) ∧ w'.cell? ⟨gb118, 2, none⟩ = some (.int .u64 x119002_1) ∧ w'.cell? ⟨gb118, 3, none⟩ = some (.int .u64 x119003_1) ∧ w'.cell? ⟨gb133, 0, none⟩ = some (.int .i64 ((rd_T25 l0_2 x59_1).f0)) ∧ w'.cell? ⟨gb133, 1, none⟩ = some (.slice A132_1 ((rd_T25 l0_2 x59_1).f1).length c132_1) ∧ w'.cell? ⟨gb133, 2, none⟩ = some (.slice A132_2 ((rd_T25 l0_2 x59_1).f2).length c132_2) ∧ w'.cell? ⟨gb116, 0, none⟩ = some (.int .u64 a2_0) ∧ w'.cell? ⟨gb116, 1, none⟩ = some (.int .u64 a2_1) ∧ w'.cell? ⟨gb116, 2, none⟩ = some (.int .u64 a2_2) ∧ w'.cell? ⟨gb116, 3, none⟩ = some (.int .u64 a2_3)) (ds := [6]) (tf 0 7) (by kernel_rfl) rfl rfl ⟨(blk_cell BK118.out 0).trans rfl, (blk_cell BK118.out 1).trans rfl, (blk_cell BK118.out 2).trans rfl, (blk_cell BK118.out 3).trans rfl, (blk_cell BK133.out 0).trans rfl, (blk_cell BK133.out 1).trans rfl, (blk_cell BK133.out 2).trans rfl, (blk_cell BK116.out 0).trans rfl, (blk_cell BK116.out 1).trans rfl, (blk_cell BK116.out 2).trans rfl, (blk_cell BK116.out 3).trans rfl⟩ (fun hHeld => ?_)
     generalize w109.drew = w110 at BK115 BK116 BK117 BK118 BK133 HB hHeld ⊢
     refine pure_ (i := 2) (N := some 65) (v := ?_) (a' := ?_) #[false, false, true, false, false, false, false] rfl rfl (by kernel_rfl) (fun _ _ _ h => h) (Or.inl ⟨by rfl, ?_⟩) ?_ ?_
     rotate_left
     · intro w'
       go_simp
       with_reducible rfl
     rotate_left
     · simp only [Act.put, sT, sZ, sS, i64_w, i32_w]
       rfl
     refine take_ (i := 0) (N := some 63) (v := ?_) (a' := ?_) #[true, false, true, false, false, false, false] rfl rfl (by kernel_rfl) (fun _ _ _ h => h) (Or.inl ⟨by rfl, ?_⟩) hHeld ?_ ?_
     rotate_left
     · rintro w' ⟨s0, s1, s2, s3, s4, s5, s6, s7, s8, s9, s10⟩
       go_simp
       with_reducible rfl
     rotate_left
     · simp only [Act.put, sT, sZ, sS, i64_w, i32_w]
       rfl
     refine take_ (i := 1) (N := some 64) (v := ?_) (a' := ?_) (tf 3 4) rfl rfl (by kernel_rfl) (fun _ _ _ h => h) (Or.inl ⟨by rfl, ?_⟩) hHeld ?_ ?_
     rotate_left
     · rintro w' ⟨s0, s1, s2, s3, s4, s5, s6, s7, s8, s9, s10⟩
       go_simp
       with_reducible rfl
     rotate_left
     · simp only [Act.put, sT, sZ, sS, i64_w, i32_w]
       rfl
     refine take_ (i := 3) (N := some 66) (v := ?_) (a' := ?_) (tf 4 3) rfl rfl (by kernel_rfl) (fun _ _ _ h => h) (Or.inl ⟨by rfl, ?_⟩) hHeld ?_ ?_
     rotate_left
     · rintro w' ⟨s0, s1, s2, s3, s4, s5, s6, s7, s8, s9, s10⟩
       go_simp
       with_reducible rfl
     rotate_left
     · simp only [Act.put, sT, sZ, sS, i64_w, i32_w]
       rfl
     refine one_ (i := 4) (N := some 67) (tf 5 2) rfl rfl (by kernel_rfl) (by decide) (fun K hK => ?_)
     refine gO_ Try.func46 #[.agg #[.int .i64 ((rd_T25 l0_2 x59_1).f0), .slice A132_1 ((rd_T25 l0_2 x59_1).f1).length c132_1, .slice A132_2 ((rd_T25 l0_2 x59_1).f2).length c132_2], .slice A1 l1.length c1, .agg #[.int .u64 a2_0, .int .u64 a2_1, .int .u64 a2_2, .int .u64 a2_3]] rfl rfl ?_
     with_reducible refine (ih k1 (by have := HK1.out; omega) ((rd_T25 l0_2 x59_1).f0) _ _ ((rd_T25 l0_2 x59_1).f1) _ _ ((rd_T25 l0_2 x59_1).f2) _ _ l1 a2_0 a2_1 a2_2 a2_3 t134 t135 t136 t137 _ ?side1 ?side2 ?side3 ?side4 ?side5 ?side6 A101.out).mono ?_
     (case side1 => exact cB_ HR132_1 HB)
     (case side2 => exact HC132_1.out)
     (case side3 => exact cB_ HR132_2 HB)
     (case side4 => exact HC132_2.out)
     (case side5 => exact cB_ HR1 HB)
     (case side6 => exact HC1.out)
     rintro e w111 ⟨rfl, hb⟩
     refine ⟨_, rfl, ?_⟩
     replace BK115 := bb_ BK115 hb
     replace BK116 := bb_ BK116 hb
     replace BK117 := bb_ BK117 hb
     replace BK118 := bb_ BK118 hb
     replace BK133 := bb_ BK133 hb
     replace HB := bs_ HB hb
     (try clear hb)
     (try clear hb2)
     (try clear hk)
     (try clear hi)
     refine hK.out _ _ ⟨(blk_cell BK118.out 0).trans rfl, (blk_cell BK118.out 1).trans rfl, (blk_cell BK118.out 2).trans rfl, (blk_cell BK118.out 3).trans rfl, (blk_cell BK133.out 0).trans rfl, (blk_cell BK133.out 1).trans rfl, (blk_cell BK133.out 2).trans rfl, (blk_cell BK116.out 0).trans rfl, (blk_cell BK116.out 1).trans rfl, (blk_cell BK116.out 2).trans rfl, (blk_cell BK116.out 3).trans rfl⟩ (fun hHeld => ?_)
     clear hK K
     refine nO_ (some 67) ?_
     refine one_ (i := 5) (N := some 68) (tf 6 1) rfl rfl (by kernel_rfl) (by decide) (fun K hK => ?_)
     refine gO_ Try.func82 #[.agg #[.int .u64 x119000_1, .int .u64 x119001_1, .int .u64 x119002_1, .int .u64 x119003_1], .agg #[.int .u64 t134, .int .u64 t135, .int .u64 t136, .int .u64 t137]] rfl rfl ?_
     with_reducible refine (pat_places_with.calls x119000_1 x119001_1 x119002_1 x119003_1 t134 t135 t136 t137 t138 t139 t140 t141 _ A102.out).mono ?_
     rintro e w112 ⟨rfl, hb⟩
     refine ⟨_, rfl, ?_⟩
     replace BK115 := bb_ BK115 hb
     replace BK116 := bb_ BK116 hb
     replace BK117 := bb_ BK117 hb
     replace BK118 := bb_ BK118 hb
     replace BK133 := bb_ BK133 hb
     replace HB := bs_ HB hb
     (try clear hb)
     (try clear hb2)
     (try clear hk)
     (try clear hi)
     refine hK.out _ _ ⟨(blk_cell BK118.out 0).trans rfl, (blk_cell BK118.out 1).trans rfl, (blk_cell BK118.out 2).trans rfl, (blk_cell BK118.out 3).trans rfl, (blk_cell BK133.out 0).trans rfl, (blk_cell BK133.out 1).trans rfl, (blk_cell BK133.out 2).trans rfl, (blk_cell BK116.out 0).trans rfl, (blk_cell BK116.out 1).trans rfl, (blk_cell BK116.out 2).trans rfl, (blk_cell BK116.out 3).trans rfl⟩ (fun hHeld => ?_)
     clear hK K
     refine nO_ (some 68) ?_
     refine last_ (i := 6) (N := none) (tf 7 0) rfl rfl (by kernel_rfl) (by decide) (fun K hK => ?_)
     have hs113 : w112.cell? ⟨gb118, 0, none⟩ = some (.int .u64 x119000_1) := (blk_cell BK118.out 0).trans rfl
     have hfs113 := bF BK118.out 0
     have hns113_0 := NB115_118.out
     have hns113_1 := NB116_118.out
     have hns113_2 := NB117_118.out
     have hns113_4 := NB133_118.out
     have hms113_0 := NB118_115.out
     have hms113_1 := NB118_116.out
     have hms113_2 := NB118_117.out
     have hms113_4 := NB118_133.out
     have hs114 : w112.cell? ⟨gb118, 1, none⟩ = some (.int .u64 x119001_1) := (blk_cell BK118.out 1).trans rfl
     have hfs114 := bF BK118.out 1
     have hns114_0 := NB115_118.out
     have hns114_1 := NB116_118.out
     have hns114_2 := NB117_118.out
     have hns114_4 := NB133_118.out
     have hms114_0 := NB118_115.out
     have hms114_1 := NB118_116.out
     have hms114_2 := NB118_117.out
     have hms114_4 := NB118_133.out
     have hs115 : w112.cell? ⟨gb118, 2, none⟩ = some (.int .u64 x119002_1) := (blk_cell BK118.out 2).trans rfl
     have hfs115 := bF BK118.out 2
     have hns115_0 := NB115_118.out
     have hns115_1 := NB116_118.out
     have hns115_2 := NB117_118.out
     have hns115_4 := NB133_118.out
     have hms115_0 := NB118_115.out
     have hms115_1 := NB118_116.out
     have hms115_2 := NB118_117.out
     have hms115_4 := NB118_133.out
     have hs116 : w112.cell? ⟨gb118, 3, none⟩ = some (.int .u64 x119003_1) := (blk_cell BK118.out 3).trans rfl
     have hfs116 := bF BK118.out 3
     have hns116_0 := NB115_118.out
     have hns116_1 := NB116_118.out
     have hns116_2 := NB117_118.out
     have hns116_4 := NB133_118.out
     have hms116_0 := NB118_115.out
     have hms116_1 := NB118_116.out
     have hms116_2 := NB118_117.out
     have hms116_4 := NB118_133.out
     refine skip_ (w1 := ?_) (by rfl) rfl ?_ ?_
     rotate_left
     · go_simp
       rfl
     refine hK.out _ _ ?_
     clear hK K
     refine done_ (by kernel_rfl) ?_
     try go_wp2
     repeat (go_step3; try go_wp2_with (fail))
     go_roundg k1
     case measure => have := HK1.out; omega
     case rel => exact ⟨(wrap64 (x59_1 + 1)), (t138), (t139), (t140), (t141), rf_, H', ⟨by have := HK1.out; omega⟩, ⟨by (with_reducible repeat (first | apply bkN | apply bkD | apply bkA)); refine blk_far ?_ NB115_118.out _; (with_reducible repeat (first | apply bkN | apply bkD | apply bkA)); refine blk_far ?_ NB115_118.out _; (with_reducible repeat (first | apply bkN | apply bkD | apply bkA)); refine blk_far ?_ NB115_118.out _; (with_reducible repeat (first | apply bkN | apply bkD | apply bkA)); refine blk_far ?_ NB115_118.out _; (with_reducible repeat (first | apply bkN | apply bkD | apply bkA)); exact BK115.out⟩, ⟨by (with_reducible repeat (first | apply bkN | apply bkD | apply bkA)); refine blk_far ?_ NB116_118.out _; (with_reducible repeat (first | apply bkN | apply bkD | apply bkA)); refine blk_far ?_ NB116_118.out _; (with_reducible repeat (first | apply bkN | apply bkD | apply bkA)); refine blk_far ?_ NB116_118.out _; (with_reducible repeat (first | apply bkN | apply bkD | apply bkA)); refine blk_far ?_ NB116_118.out _; (with_reducible repeat (first | apply bkN | apply bkD | apply bkA)); exact BK116.out⟩, ⟨by (with_reducible repeat (first | apply bkN | apply bkD | apply bkA)); refine blk_far ?_ NB117_118.out _; (with_reducible repeat (first | apply bkN | apply bkD | apply bkA)); refine blk_far ?_ NB117_118.out _; (with_reducible repeat (first | apply bkN | apply bkD | apply bkA)); refine blk_far ?_ NB117_118.out _; (with_reducible repeat (first | apply bkN | apply bkD | apply bkA)); refine blk_far ?_ NB117_118.out _; (with_reducible repeat (first | apply bkN | apply bkD | apply bkA)); exact BK117.out⟩, ⟨by (with_reducible repeat (first | apply bkN | apply bkD | apply bkA)); refine blk_put (cs := #[.int .u64 t138, .int .u64 t139, .int .u64 t140, .int .u64 x119003_1]) ?_ 3 _ rfl; (with_reducible repeat (first | apply bkN | apply bkD | apply bkA)); refine blk_put (cs := #[.int .u64 t138, .int .u64 t139, .int .u64 x119002_1, .int .u64 x119003_1]) ?_ 2 _ rfl; (with_reducible repeat (first | apply bkN | apply bkD | apply bkA)); refine blk_put (cs := #[.int .u64 t138, .int .u64 x119001_1, .int .u64 x119002_1, .int .u64 x119003_1]) ?_ 1 _ rfl; (with_reducible repeat (first | apply bkN | apply bkD | apply bkA)); refine blk_put (cs := #[.int .u64 x119000_1, .int .u64 x119001_1, .int .u64 x119002_1, .int .u64 x119003_1]) ?_ 0 _ rfl; (with_reducible repeat (first | apply bkN | apply bkD | apply bkA)); exact BK118.out⟩, ⟨bw_ HB.out⟩⟩
 rw [if_neg c89] at H
 have c89b0 : (a0_0 == 3) = false := beq_eq_false_iff_ne.mpr c89
 have c89b1 : (a0_0 != 3) = true := bne_iff_ne.mpr c89
 by_cases c124 : a0_0 = 4
 rotate_left
 · rw [if_neg c124] at H
   have c124b0 : (a0_0 == 4) = false := beq_eq_false_iff_ne.mpr c124
   have c124b1 : (a0_0 != 4) = true := bne_iff_ne.mpr c124
   simp only [Option.some.injEq, Prod.mk.injEq] at H
   obtain ⟨rfl, rfl, rfl, rfl⟩ := H
   go_enter Try.func46, Try.ntmps46
   go_wp2_with (first | ((with_reducible refine gd_ 3 rfl ?_); refine be_ #[.int .i64 a0_0, .slice A0_1 l0_1.length c0_1, .slice A0_2 l0_2.length c0_2] 25 ?_; intro gb115 hg w181 BK115 hb; have GW115 := ge_ HB hg; have GE115 := ge_ HB hg; replace HB := bs_ HB hb; clear hb hg) | ((with_reducible refine gd_ 5 rfl ?_); refine be_ #[.int .u64 a2_0, .int .u64 a2_1, .int .u64 a2_2, .int .u64 a2_3] 71 ?_; intro gb116 hg w182 BK116 hb; have GW116 := ge_ HB hg; have GE116 := ge_ HB hg; have NB115_116 := nl_ BK115 hg; have NB116_115 := ng_ BK115 hg; replace BK115 := bb_ BK115 hb; replace HB := bs_ HB hb; clear hb hg) | ((with_reducible refine gd_ 6 rfl ?_); refine be_ #[.int .u64 0, .int .u64 0, .int .u64 0, .int .u64 0] 71 ?_; intro gb117 hg w183 BK117 hb; have GW117 := ge_ HB hg; have GE117 := ge_ HB hg; have NB115_117 := nl_ BK115 hg; have NB117_115 := ng_ BK115 hg; have NB116_117 := nl_ BK116 hg; have NB117_116 := ng_ BK116 hg; replace BK115 := bb_ BK115 hb; replace BK116 := bb_ BK116 hb; replace HB := bs_ HB hb; clear hb hg) | ((with_reducible refine gd_ 7 rfl ?_); refine be_ #[.int .u64 0, .int .u64 0, .int .u64 0, .int .u64 0] 71 ?_; intro gb118 hg w184 BK118 hb; have GW118 := ge_ HB hg; have GE118 := ge_ HB hg; have NB115_118 := nl_ BK115 hg; have NB118_115 := ng_ BK115 hg; have NB116_118 := nl_ BK116 hg; have NB118_116 := ng_ BK116 hg; have NB117_118 := nl_ BK117 hg; have NB118_117 := ng_ BK117 hg; replace BK115 := bb_ BK115 hb; replace BK116 := bb_ BK116 hb; replace BK117 := bb_ BK117 hb; replace HB := bs_ HB hb; clear hb hg; have hnb185 := NB115_116.out; have hnc185 := NB116_115.out; have hnb186 := NB115_117.out; have hnc186 := NB117_115.out; have hnb187 := NB115_118.out; have hnc187 := NB118_115.out; obtain ⟨hcz188_0, hcz188_1, hcz188_2, hfz188_0, hfz188_1, hfz188_2⟩ := bc3_ BK115; have hnb189 := NB118_116.out; have hnc189 := NB116_118.out; have hnb190 := NB118_117.out; have hnc190 := NB117_118.out; obtain ⟨hcz191_0, hcz191_1, hcz191_2, hcz191_3, hfz191_0, hfz191_1, hfz191_2, hfz191_3⟩ := bc4_ BK118; have hnb192 := NB117_116.out; have hnc192 := NB116_117.out; obtain ⟨hcz193_0, hcz193_1, hcz193_2, hcz193_3, hfz193_0, hfz193_1, hfz193_2, hfz193_3⟩ := bc4_ BK117))
   repeat (go_step3; try go_wp2_with (fail))
   refine bodyPost_ret (results_cell_row rfl _ _ gb117 71 #[.int .u64 0, .int .u64 0, .int .u64 0, .int .u64 0] (0, 0) _ rfl (ub_ BK117.out) Try.underlying71 rfl (by kernel_rfl)) rfl ?_
   exact fin_ HB
 rw [if_pos c124] at H
 have c124b0 : (a0_0 == 4) = true := beq_iff_eq.mpr c124
 have c124b1 : (a0_0 != 4) = false := bne_eq_false_iff_eq.mpr c124
 clear c124
 have H' := aM H
 clear H
 go_enter Try.func46, Try.ntmps46
 go_wp2_with (first | ((with_reducible refine gd_ 3 rfl ?_); refine be_ #[.int .i64 a0_0, .slice A0_1 l0_1.length c0_1, .slice A0_2 l0_2.length c0_2] 25 ?_; intro gb115 hg w125 BK115 hb; have GW115 := ge_ HB hg; have GE115 := ge_ HB hg; replace HB := bs_ HB hb; clear hb hg) | ((with_reducible refine gd_ 5 rfl ?_); refine be_ #[.int .u64 a2_0, .int .u64 a2_1, .int .u64 a2_2, .int .u64 a2_3] 71 ?_; intro gb116 hg w126 BK116 hb; have GW116 := ge_ HB hg; have GE116 := ge_ HB hg; have NB115_116 := nl_ BK115 hg; have NB116_115 := ng_ BK115 hg; replace BK115 := bb_ BK115 hb; replace HB := bs_ HB hb; clear hb hg) | ((with_reducible refine gd_ 6 rfl ?_); refine be_ #[.int .u64 0, .int .u64 0, .int .u64 0, .int .u64 0] 71 ?_; intro gb117 hg w127 BK117 hb; have GW117 := ge_ HB hg; have GE117 := ge_ HB hg; have NB115_117 := nl_ BK115 hg; have NB117_115 := ng_ BK115 hg; have NB116_117 := nl_ BK116 hg; have NB117_116 := ng_ BK116 hg; replace BK115 := bb_ BK115 hb; replace BK116 := bb_ BK116 hb; replace HB := bs_ HB hb; clear hb hg) | ((with_reducible refine gd_ 7 rfl ?_); refine be_ #[.int .u64 0, .int .u64 0, .int .u64 0, .int .u64 0] 71 ?_; intro gb118 hg w128 BK118 hb; have GW118 := ge_ HB hg; have GE118 := ge_ HB hg; have NB115_118 := nl_ BK115 hg; have NB118_115 := ng_ BK115 hg; have NB116_118 := nl_ BK116 hg; have NB118_116 := ng_ BK116 hg; have NB117_118 := nl_ BK117 hg; have NB118_117 := ng_ BK117 hg; replace BK115 := bb_ BK115 hb; replace BK116 := bb_ BK116 hb; replace BK117 := bb_ BK117 hb; replace HB := bs_ HB hb; clear hb hg; have hnb129 := NB115_116.out; have hnc129 := NB116_115.out; have hnb130 := NB115_117.out; have hnc130 := NB117_115.out; have hnb131 := NB115_118.out; have hnc131 := NB118_115.out; obtain ⟨hcz132_0, hcz132_1, hcz132_2, hfz132_0, hfz132_1, hfz132_2⟩ := bc3_ BK115; have hnb133 := NB116_117.out; have hnc133 := NB117_116.out; have hnb134 := NB116_118.out; have hnc134 := NB118_116.out; obtain ⟨hcz135_0, hcz135_1, hcz135_2, hcz135_3, hfz135_0, hfz135_1, hfz135_2, hfz135_3⟩ := bc4_ BK116; have hnb136 := NB118_117.out; have hnc136 := NB117_118.out; obtain ⟨hcz137_0, hcz137_1, hcz137_2, hcz137_3, hfz137_0, hfz137_1, hfz137_2, hfz137_3⟩ := bc4_ BK118))
 repeat (go_step3; try go_wp2_with (fail))
 go_loopg [] k (fun kq w' => ∃ (x119000_1 : Int) (x119001_1 : Int) (x119002_1 : Int) (x119003_1 : Int), Aside0 (pat_ends.l3 kq l1 a0_0 l0_1 l0_2 x119000_1 x119001_1 x119002_1 x119003_1 = some (r1, r2, r3, r4)) ∧ Aside0 (kq ≤ k) ∧ Aside0 (w'.heap[gb115]? = some (.cells #[.int .i64 a0_0, (.slice A0_1 l0_1.length c0_1), (.slice A0_2 l0_2.length c0_2)] 25 (0, 0))) ∧ Aside0 (w'.heap[gb116]? = some (.cells #[.int .u64 a2_0, .int .u64 a2_1, .int .u64 a2_2, .int .u64 a2_3] 71 (0, 0))) ∧ Aside0 (w'.heap[gb117]? = some (.cells #[.int .u64 0, .int .u64 0, .int .u64 0, .int .u64 0] 71 (0, 0))) ∧ Aside0 (w'.heap[gb118]? = some (.cells #[.int .u64 x119000_1, .int .u64 x119001_1, .int .u64 x119002_1, .int .u64 x119003_1] 71 (0, 0))) ∧ Aside0 (Below w.heap.size w w'))
 case atStart => exact ⟨(a2_0), (a2_1), (a2_2), (a2_3), H', ⟨Nat.le_refl _⟩, ⟨by (with_reducible repeat (first | apply bkN | apply bkD | apply bkA)); refine blk_far ?_ NB115_118.out _; (with_reducible repeat (first | apply bkN | apply bkD | apply bkA)); refine blk_far ?_ NB115_118.out _; (with_reducible repeat (first | apply bkN | apply bkD | apply bkA)); refine blk_far ?_ NB115_118.out _; (with_reducible repeat (first | apply bkN | apply bkD | apply bkA)); refine blk_far ?_ NB115_118.out _; (with_reducible repeat (first | apply bkN | apply bkD | apply bkA)); exact BK115.out⟩, ⟨by (with_reducible repeat (first | apply bkN | apply bkD | apply bkA)); refine blk_far ?_ NB116_118.out _; (with_reducible repeat (first | apply bkN | apply bkD | apply bkA)); refine blk_far ?_ NB116_118.out _; (with_reducible repeat (first | apply bkN | apply bkD | apply bkA)); refine blk_far ?_ NB116_118.out _; (with_reducible repeat (first | apply bkN | apply bkD | apply bkA)); refine blk_far ?_ NB116_118.out _; (with_reducible repeat (first | apply bkN | apply bkD | apply bkA)); exact BK116.out⟩, ⟨by (with_reducible repeat (first | apply bkN | apply bkD | apply bkA)); refine blk_far ?_ NB117_118.out _; (with_reducible repeat (first | apply bkN | apply bkD | apply bkA)); refine blk_far ?_ NB117_118.out _; (with_reducible repeat (first | apply bkN | apply bkD | apply bkA)); refine blk_far ?_ NB117_118.out _; (with_reducible repeat (first | apply bkN | apply bkD | apply bkA)); refine blk_far ?_ NB117_118.out _; (with_reducible repeat (first | apply bkN | apply bkD | apply bkA)); exact BK117.out⟩, ⟨by (with_reducible repeat (first | apply bkN | apply bkD | apply bkA)); refine blk_put (cs := #[.int .u64 a2_0, .int .u64 a2_1, .int .u64 a2_2, .int .u64 0]) ?_ 3 _ rfl; (with_reducible repeat (first | apply bkN | apply bkD | apply bkA)); refine blk_put (cs := #[.int .u64 a2_0, .int .u64 a2_1, .int .u64 0, .int .u64 0]) ?_ 2 _ rfl; (with_reducible repeat (first | apply bkN | apply bkD | apply bkA)); refine blk_put (cs := #[.int .u64 a2_0, .int .u64 0, .int .u64 0, .int .u64 0]) ?_ 1 _ rfl; (with_reducible repeat (first | apply bkN | apply bkD | apply bkA)); refine blk_put (cs := #[.int .u64 0, .int .u64 0, .int .u64 0, .int .u64 0]) ?_ 0 _ rfl; (with_reducible repeat (first | apply bkN | apply bkD | apply bkA)); exact BK118.out⟩, ⟨bw_ HB.out⟩⟩
 case round =>
  clear H'
  obtain ⟨x119000_1, x119001_1, x119002_1, x119003_1, HA, HK1, BK115, BK116, BK117, BK118, HB⟩ := hrel
  cases gk with
  | zero => exact absurd HA.out (by simp [pat_ends.l3])
  | succ k1 =>
   have H := HA.out
   clear HA
   simp only [pat_ends.l3] at H
   have c138 := ifn_ H
   rw [if_pos c138] at H
   have c138b0 : decide (0 < (l0_2.length : Int)) = true := decide_eq_true c138
   have c138b1 : decide (0 < l0_2.length) = true := decide_eq_true (by omega)
   clear c138
   obtain ⟨⟨t143, t144, t145, t146⟩, A139, H⟩ := bnd_ H
   dsimp only at H
   obtain ⟨⟨t147, t148, t149, t150⟩, A140, H⟩ := bnd_ H
   dsimp only at H
   by_cases c141 : (t147 == x119000_1 && (t148 == x119001_1 && (t149 == x119002_1 && (t150 == x119003_1)))) = true
   rotate_left
   · rw [if_neg c141] at H
     have c141b0 : (t147 == x119000_1 && (t148 == x119001_1 && (t149 == x119002_1 && (t150 == x119003_1)))) = false := by simpa using c141
     (try (have c141b1 : decide (t147 = x119000_1 && (t148 == x119001_1 && (t149 == x119002_1 && (t150 == x119003_1)))) = false := by simpa using c141))
     (try (have c141b2 : (t147 == x119000_1 && (t148 == x119001_1 && (t149 == x119002_1 && (t150 == x119003_1)))) = false := by simpa using c141))
     (try (have c141b3 : ¬ (t147 = x119000_1 && (t148 == x119001_1 && (t149 == x119002_1 && (t150 == x119003_1)))) := by simpa using c141))
     clear c141
     have H' := aM H
     clear H
     try go_wp2
     repeat (go_step3; try go_wp2_with (fail))
     replace BK115 := aM (blk_drew BK115.out)
     replace BK116 := aM (blk_drew BK116.out)
     replace BK117 := aM (blk_drew BK117.out)
     replace BK118 := aM (blk_drew BK118.out)
     replace HB := aM (below_drew1 HB.out)
     have p142 : 0 ≤ (0 : Int) := (by omega)
     have q142 : 0 < (l0_2.length : Int) := od_
     obtain ⟨ad142, A142_1, c142_1, A142_2, c142_2, e142, hx142_0, hx142_1, hx142_2, hl142_1, hi142_1, hl142_2, hi142_2⟩ := at_T25 HR0_2.out 0 p142 q142
     have hw142_2 := hx142_2
     (try rw [show ((0 : Int)).toNat = 0 from rfl] at hw142_2)
     (try rw [show 0 * 3 = 0 from rfl] at hw142_2)
     (try rw [Addr.add_zero'] at hw142_2)
     have hw142_1 := hx142_1
     (try rw [show ((0 : Int)).toNat = 0 from rfl] at hw142_1)
     (try rw [show 0 * 3 = 0 from rfl] at hw142_1)
     (try rw [Addr.add_zero'] at hw142_1)
     have hw142_0 := hx142_0
     (try rw [show ((0 : Int)).toNat = 0 from rfl] at hw142_0)
     (try rw [show 0 * 3 = 0 from rfl] at hw142_0)
     (try rw [Addr.add_zero'] at hw142_0)
     cases e142
     have qi142 : (0 < l0_2.length) = True := eq_true (by omega)
     (try rw [show ((0 : Int)).toNat = 0 from rfl] at hx142_0)
     (try rw [show 0 * 3 = 0 from rfl] at hx142_0)
     (try rw [Addr.add_zero'] at hx142_0)
     (try rw [show ((0 : Int)).toNat = 0 from rfl] at hx142_1)
     (try rw [show 0 * 3 = 0 from rfl] at hx142_1)
     (try rw [Addr.add_zero'] at hx142_1)
     (try rw [show ((0 : Int)).toNat = 0 from rfl] at hx142_2)
     (try rw [show 0 * 3 = 0 from rfl] at hx142_2)
     (try rw [Addr.add_zero'] at hx142_2)
     replace hx142_0 := hx_ HB hx142_0
     replace hx142_1 := hx_ HB hx142_1
     replace hx142_2 := hx_ HB hx142_2
     have HR142_1 := aM hi142_1
     have HC142_1 := aM hl142_1
     clear hi142_1 hl142_1
     have HR142_2 := aM hi142_2
     have HC142_2 := aM hl142_2
     clear hi142_2 hl142_2
     replace p142 := eq_true p142
     replace q142 := eq_true q142
     refine start_ (n := 11) (S := fun w' => True) (ds := []) (tf 0 11) (by kernel_rfl) rfl rfl trivial (fun hHeld => ?_); refine with_tabW pat_ends.tab25 pat_ends.bits25 (fun HT_ HW_ => ?_)
     generalize wr.drew = w163 at BK115 BK116 BK117 BK118 HB HR142_1 HR142_2 hx142_0 hx142_1 hx142_2 hHeld ⊢
     refine pA_ 1 (some 74) ?_
     refine pA_ 5 (some 78) ?_
     refine inv_at [0, 2, 3, 4, 6, 7, 8, 9, 10] (fun a0_ b a w' => ∃ (gb151 : Nat) (m9_ : Value), a = putSel a0_ b [(0, 73, .agg #[.int .u64 x119000_1, .int .u64 x119001_1, .int .u64 x119002_1, .int .u64 x119003_1]), (2, 75, .slice (some ad142) l0_2.length c0_2), (3, 76, .pointer (some ad142)), (4, 77, .agg #[.int .i64 ((rd_T25 l0_2 0).f0), .slice A142_1 ((rd_T25 l0_2 0).f1).length c142_1, .slice A142_2 ((rd_T25 l0_2 0).f2).length c142_2]), (6, 79, .agg #[.int .u64 x119000_1, .int .u64 x119001_1, .int .u64 x119002_1, .int .u64 x119003_1]), (7, 80, .agg #[.int .u64 t143, .int .u64 t144, .int .u64 t145, .int .u64 t146]), (8, 81, .agg #[.int .u64 t147, .int .u64 t148, .int .u64 t149, .int .u64 t150]), (9, 14, m9_)] ∧ (w'.heap[gb115]? = some (.cells #[.int .i64 a0_0, .slice A0_1 l0_1.length c0_1, .slice (some ad142) l0_2.length c0_2] 25 (0, 0))) ∧ (w'.heap[gb116]? = some (.cells #[.int .u64 a2_0, .int .u64 a2_1, .int .u64 a2_2, .int .u64 a2_3] 71 (0, 0))) ∧ (w'.heap[gb117]? = some (.cells #[.int .u64 0, .int .u64 0, .int .u64 0, .int .u64 0] 71 (0, 0))) ∧ (w'.heap[gb118]? = some (.cells #[.int .u64 x119000_1, .int .u64 x119001_1, .int .u64 x119002_1, .int .u64 x119003_1] 71 (0, 0))) ∧ (Below w.heap.size w w') ∧ (b 9 = true → b 10 = false → w'.heap[gb151]? = some (.cells #[.int .u64 0, .int .u64 0, .int .u64 0, .int .u64 0] 71 (0, 0))) ∧ (b 9 = true → w.heap.size ≤ gb151) ∧ (b 9 = true → w.heap.size ≤ gb151) ∧ (b 9 = true → gb115 ≠ gb151) ∧ (b 9 = true → gb151 ≠ gb115) ∧ (b 9 = true → gb116 ≠ gb151) ∧ (b 9 = true → gb151 ≠ gb116) ∧ (b 9 = true → gb117 ≠ gb151) ∧ (b 9 = true → gb151 ≠ gb117) ∧ (b 9 = true → gb118 ≠ gb151) ∧ (b 9 = true → gb151 ≠ gb118) ∧ (b 10 = true → w'.heap[gb151]? = some (.cells #[.int .u64 t147, .int .u64 t148, .int .u64 t149, .int .u64 t150] 71 (0, 0))) ∧ (b 9 = true → (m9_ : Value) = .pointer (some ⟨gb151, 0, none⟩))) HT_.out HW_.out (by kernel_rfl) (by kernel_rfl) ?_ ?_ ?_
     · exact ⟨0, .bool false, by simp only [putSel, Bool.false_eq_true, if_false], BK115.out, BK116.out, BK117.out, BK118.out, HB.out, fun h_ => absurd h_ (by decide), fun h_ => absurd h_ (by decide), fun h_ => absurd h_ (by decide), fun h_ => absurd h_ (by decide), fun h_ => absurd h_ (by decide), fun h_ => absurd h_ (by decide), fun h_ => absurd h_ (by decide), fun h_ => absurd h_ (by decide), fun h_ => absurd h_ (by decide), fun h_ => absurd h_ (by decide), fun h_ => absurd h_ (by decide), fun h_ => absurd h_ (by decide), fun h_ => absurd h_ (by decide)⟩
     · skip
       clear BK115 BK116 BK117 BK118 HB
       refine steps_cons ?_ ?_
       · rintro b a w' ⟨gb151, m9_, ha, Q_BK115, Q_BK116, Q_BK117, Q_BK118, Q_HB, Q_BK151, Q_GW151, Q_GE151, Q_NB115_151, Q_NB151_115, Q_NB116_151, Q_NB151_116, Q_NB117_151, Q_NB151_117, Q_NB118_151, Q_NB151_118, Q_BK151_e10, Q_X9_⟩ hb_ hon hoff
         refine ⟨_, rfl, fun K hK => ?_⟩
         have e7 : a.tmps[7]? = some (.pointer (some ⟨gb118, 0, none⟩)) := by rw [ha]; exact (putSel_off rfl).trans rfl
         replace ha := aM ha
         have BK115 := aM Q_BK115
         have BK116 := aM Q_BK116
         have BK117 := aM Q_BK117
         have BK118 := aM Q_BK118
         have HB := aM Q_HB
         have hc0_ : w'.cell? ⟨gb118, 0, none⟩ = some (.int .u64 x119000_1) := (blk_cell BK118.out 0).trans rfl
         have hc1_ : w'.cell? ⟨gb118, 1, none⟩ = some (.int .u64 x119001_1) := (blk_cell BK118.out 1).trans rfl
         have hc2_ : w'.cell? ⟨gb118, 2, none⟩ = some (.int .u64 x119002_1) := (blk_cell BK118.out 2).trans rfl
         have hc3_ : w'.cell? ⟨gb118, 3, none⟩ = some (.int .u64 x119003_1) := (blk_cell BK118.out 3).trans rfl
         refine value_ (w1 := w') (v := .agg #[.int .u64 x119000_1, .int .u64 x119001_1, .int .u64 x119002_1, .int .u64 x119003_1]) (by rfl) rfl ?_ ?_
         · go_simp
           (try simp only [i64_w])
           try rfl
         refine hK.out _ _ ⟨gb151, m9_, (by rw [ha.out]; exact putSel_upk 0 hb_ rfl rfl rfl), Q_BK115, Q_BK116, Q_BK117, Q_BK118, Q_HB, Q_BK151, Q_GW151, Q_GE151, Q_NB115_151, Q_NB151_115, Q_NB116_151, Q_NB151_116, Q_NB117_151, Q_NB151_117, Q_NB118_151, Q_NB151_118, hf_ (hoff 10 (by kernel_rfl)), Q_X9_⟩
       refine steps_cons ?_ ?_
       · rintro b a w' ⟨gb151, m9_, ha, Q_BK115, Q_BK116, Q_BK117, Q_BK118, Q_HB, Q_BK151, Q_GW151, Q_GE151, Q_NB115_151, Q_NB151_115, Q_NB116_151, Q_NB151_116, Q_NB117_151, Q_NB151_117, Q_NB118_151, Q_NB151_118, Q_BK151_e10, Q_X9_⟩ hb_ hon hoff
         refine ⟨_, rfl, fun K hK => ?_⟩
         have e74 : a.tmps[74]? = some (.pointer (some ⟨gb115, 2, none⟩)) := by rw [ha]; exact (putSel_off rfl).trans rfl
         replace ha := aM ha
         have BK115 := aM Q_BK115
         have BK116 := aM Q_BK116
         have BK117 := aM Q_BK117
         have BK118 := aM Q_BK118
         have HB := aM Q_HB
         have hc0_ : w'.cell? ⟨gb115, 0, none⟩ = some (.int .i64 a0_0) := (blk_cell BK115.out 0).trans rfl
         have hc1_ : w'.cell? ⟨gb115, 1, none⟩ = some (.slice A0_1 l0_1.length c0_1) := (blk_cell BK115.out 1).trans rfl
         have hc2_ : w'.cell? ⟨gb115, 2, none⟩ = some (.slice (some ad142) l0_2.length c0_2) := (blk_cell BK115.out 2).trans rfl
         refine value_ (w1 := w') (v := .slice (some ad142) l0_2.length c0_2) (by rfl) rfl ?_ ?_
         · go_simp
           (try simp only [i64_w])
           try rfl
         refine hK.out _ _ ⟨gb151, m9_, (by rw [ha.out]; exact putSel_upk 1 hb_ rfl rfl rfl), Q_BK115, Q_BK116, Q_BK117, Q_BK118, Q_HB, Q_BK151, Q_GW151, Q_GE151, Q_NB115_151, Q_NB151_115, Q_NB116_151, Q_NB151_116, Q_NB117_151, Q_NB151_117, Q_NB118_151, Q_NB151_118, hf_ (hoff 10 (by kernel_rfl)), Q_X9_⟩
       refine steps_cons ?_ ?_
       · rintro b a w' ⟨gb151, m9_, ha, Q_BK115, Q_BK116, Q_BK117, Q_BK118, Q_HB, Q_BK151, Q_GW151, Q_GE151, Q_NB115_151, Q_NB151_115, Q_NB116_151, Q_NB151_116, Q_NB117_151, Q_NB151_117, Q_NB118_151, Q_NB151_118, Q_BK151_e10, Q_X9_⟩ hb_ hon hoff
         refine ⟨_, rfl, fun K hK => ?_⟩
         have e75 : a.tmps[75]? = some (.slice (some ad142) l0_2.length c0_2) := by rw [ha]; exact putSel_on (e := (2, 75, .slice (some ad142) l0_2.length c0_2)) 1 rfl rfl (hon 2 (by kernel_rfl)) rfl
         replace ha := aM ha
         have BK115 := aM Q_BK115
         have BK116 := aM Q_BK116
         have BK117 := aM Q_BK117
         have BK118 := aM Q_BK118
         have HB := aM Q_HB
         have hs0_ : w'.cell? ad142 = some (.int .i64 ((rd_T25 l0_2 0).f0)) := ((HB.out.cell (World.block_lt_of_cell? w _ hw142_0)).trans hw142_0)
         have hs1_ : w'.cell? ⟨ad142.block, ad142.off + 1, none⟩ = some (.slice A142_1 ((rd_T25 l0_2 0).f1).length c142_1) := ((HB.out.cell (World.block_lt_of_cell? w _ hw142_1)).trans hw142_1)
         have hs2_ : w'.cell? ⟨ad142.block, ad142.off + 2, none⟩ = some (.slice A142_2 ((rd_T25 l0_2 0).f2).length c142_2) := ((HB.out.cell (World.block_lt_of_cell? w _ hw142_2)).trans hw142_2)
         refine value_ (w1 := w') (v := .pointer (some ad142)) (by rfl) rfl ?_ ?_
         · go_simp
           (try simp only [i64_w])
           try rfl
         refine hK.out _ _ ⟨gb151, m9_, (by rw [ha.out]; exact putSel_upk 2 hb_ rfl rfl rfl), Q_BK115, Q_BK116, Q_BK117, Q_BK118, Q_HB, Q_BK151, Q_GW151, Q_GE151, Q_NB115_151, Q_NB151_115, Q_NB116_151, Q_NB151_116, Q_NB117_151, Q_NB151_117, Q_NB118_151, Q_NB151_118, hf_ (hoff 10 (by kernel_rfl)), Q_X9_⟩
       refine steps_cons ?_ ?_
       · rintro b a w' ⟨gb151, m9_, ha, Q_BK115, Q_BK116, Q_BK117, Q_BK118, Q_HB, Q_BK151, Q_GW151, Q_GE151, Q_NB115_151, Q_NB151_115, Q_NB116_151, Q_NB151_116, Q_NB117_151, Q_NB151_117, Q_NB118_151, Q_NB151_118, Q_BK151_e10, Q_X9_⟩ hb_ hon hoff
         refine ⟨_, rfl, fun K hK => ?_⟩
         have e76 : a.tmps[76]? = some (.pointer (some ad142)) := by rw [ha]; exact putSel_on (e := (3, 76, .pointer (some ad142))) 2 rfl rfl (hon 3 (by kernel_rfl)) rfl
         replace ha := aM ha
         have BK115 := aM Q_BK115
         have BK116 := aM Q_BK116
         have BK117 := aM Q_BK117
         have BK118 := aM Q_BK118
         have HB := aM Q_HB
         have hs0_ : w'.cell? ad142 = some (.int .i64 ((rd_T25 l0_2 0).f0)) := ((HB.out.cell (World.block_lt_of_cell? w _ hw142_0)).trans hw142_0)
         have hs1_ : w'.cell? ⟨ad142.block, ad142.off + 1, none⟩ = some (.slice A142_1 ((rd_T25 l0_2 0).f1).length c142_1) := ((HB.out.cell (World.block_lt_of_cell? w _ hw142_1)).trans hw142_1)
         have hs2_ : w'.cell? ⟨ad142.block, ad142.off + 2, none⟩ = some (.slice A142_2 ((rd_T25 l0_2 0).f2).length c142_2) := ((HB.out.cell (World.block_lt_of_cell? w _ hw142_2)).trans hw142_2)
         refine value_ (w1 := w') (v := .agg #[.int .i64 ((rd_T25 l0_2 0).f0), .slice A142_1 ((rd_T25 l0_2 0).f1).length c142_1, .slice A142_2 ((rd_T25 l0_2 0).f2).length c142_2]) (by rfl) rfl ?_ ?_
         · go_simp
           (try simp only [i64_w])
           try rfl
         refine hK.out _ _ ⟨gb151, m9_, (by rw [ha.out]; exact putSel_upk 3 hb_ rfl rfl rfl), Q_BK115, Q_BK116, Q_BK117, Q_BK118, Q_HB, Q_BK151, Q_GW151, Q_GE151, Q_NB115_151, Q_NB151_115, Q_NB116_151, Q_NB151_116, Q_NB117_151, Q_NB151_117, Q_NB118_151, Q_NB151_118, hf_ (hoff 10 (by kernel_rfl)), Q_X9_⟩
       refine steps_cons ?_ ?_
       · rintro b a w' ⟨gb151, m9_, ha, Q_BK115, Q_BK116, Q_BK117, Q_BK118, Q_HB, Q_BK151, Q_GW151, Q_GE151, Q_NB115_151, Q_NB151_115, Q_NB116_151, Q_NB151_116, Q_NB117_151, Q_NB151_117, Q_NB118_151, Q_NB151_118, Q_BK151_e10, Q_X9_⟩ hb_ hon hoff
         refine ⟨_, rfl, fun K hK => ?_⟩
         have e7 : a.tmps[7]? = some (.pointer (some ⟨gb118, 0, none⟩)) := by rw [ha]; exact (putSel_off rfl).trans rfl
         replace ha := aM ha
         have BK115 := aM Q_BK115
         have BK116 := aM Q_BK116
         have BK117 := aM Q_BK117
         have BK118 := aM Q_BK118
         have HB := aM Q_HB
         have hc0_ : w'.cell? ⟨gb118, 0, none⟩ = some (.int .u64 x119000_1) := (blk_cell BK118.out 0).trans rfl
         have hc1_ : w'.cell? ⟨gb118, 1, none⟩ = some (.int .u64 x119001_1) := (blk_cell BK118.out 1).trans rfl
         have hc2_ : w'.cell? ⟨gb118, 2, none⟩ = some (.int .u64 x119002_1) := (blk_cell BK118.out 2).trans rfl
         have hc3_ : w'.cell? ⟨gb118, 3, none⟩ = some (.int .u64 x119003_1) := (blk_cell BK118.out 3).trans rfl
         refine value_ (w1 := w') (v := .agg #[.int .u64 x119000_1, .int .u64 x119001_1, .int .u64 x119002_1, .int .u64 x119003_1]) (by rfl) rfl ?_ ?_
         · go_simp
           (try simp only [i64_w])
           try rfl
         refine hK.out _ _ ⟨gb151, m9_, (by rw [ha.out]; exact putSel_upk 4 hb_ rfl rfl rfl), Q_BK115, Q_BK116, Q_BK117, Q_BK118, Q_HB, Q_BK151, Q_GW151, Q_GE151, Q_NB115_151, Q_NB151_115, Q_NB116_151, Q_NB151_116, Q_NB117_151, Q_NB151_117, Q_NB118_151, Q_NB151_118, hf_ (hoff 10 (by kernel_rfl)), Q_X9_⟩
       refine steps_cons ?_ ?_
       · rintro b a w' ⟨gb151, m9_, ha, Q_BK115, Q_BK116, Q_BK117, Q_BK118, Q_HB, Q_BK151, Q_GW151, Q_GE151, Q_NB115_151, Q_NB151_115, Q_NB116_151, Q_NB151_116, Q_NB117_151, Q_NB151_117, Q_NB118_151, Q_NB151_118, Q_BK151_e10, Q_X9_⟩ hb_ hon hoff
         refine ⟨_, rfl, fun K hK => ?_⟩
         have e77 : a.tmps[77]? = some (.agg #[.int .i64 ((rd_T25 l0_2 0).f0), .slice A142_1 ((rd_T25 l0_2 0).f1).length c142_1, .slice A142_2 ((rd_T25 l0_2 0).f2).length c142_2]) := by rw [ha]; exact putSel_on (e := (4, 77, .agg #[.int .i64 ((rd_T25 l0_2 0).f0), .slice A142_1 ((rd_T25 l0_2 0).f1).length c142_1, .slice A142_2 ((rd_T25 l0_2 0).f2).length c142_2])) 3 rfl rfl (hon 4 (by kernel_rfl)) rfl
         have e78 : a.tmps[78]? = some (.slice A1 l1.length c1) := by rw [ha]; exact (putSel_off rfl).trans rfl
         have e79 : a.tmps[79]? = some (.agg #[.int .u64 x119000_1, .int .u64 x119001_1, .int .u64 x119002_1, .int .u64 x119003_1]) := by rw [ha]; exact putSel_on (e := (6, 79, .agg #[.int .u64 x119000_1, .int .u64 x119001_1, .int .u64 x119002_1, .int .u64 x119003_1])) 4 rfl rfl (hon 6 (by kernel_rfl)) rfl
         replace ha := aM ha
         have BK115 := aM Q_BK115
         have BK116 := aM Q_BK116
         have BK117 := aM Q_BK117
         have BK118 := aM Q_BK118
         have HB := aM Q_HB
         refine goes_ Try.func46 (by kernel_rfl) rfl #[.agg #[.int .i64 ((rd_T25 l0_2 0).f0), .slice A142_1 ((rd_T25 l0_2 0).f1).length c142_1, .slice A142_2 ((rd_T25 l0_2 0).f2).length c142_2], .slice A1 l1.length c1, .agg #[.int .u64 x119000_1, .int .u64 x119001_1, .int .u64 x119002_1, .int .u64 x119003_1]] (by rfl) rfl rfl (by first | (simp only [List.map_toArray, List.map_cons, List.map_nil, Act.eval, Array.getD_eq_getD_getElem?, Option.getD_some, e77, e78, e79]; done) | (simp only [List.map_toArray, List.map_cons, List.map_nil, Act.eval, Array.getD_eq_getD_getElem?, Option.getD_some, e77, e78, e79]; rfl)) ?_
         with_reducible refine (ih k1 (by have := HK1.out; omega) ((rd_T25 l0_2 0).f0) _ _ ((rd_T25 l0_2 0).f1) _ _ ((rd_T25 l0_2 0).f2) _ _ l1 x119000_1 x119001_1 x119002_1 x119003_1 t143 t144 t145 t146 _ ?side1 ?side2 ?side3 ?side4 ?side5 ?side6 A139.out).mono ?_
         (case side1 => exact cB_ HR142_1 HB)
         (case side2 => exact HC142_1.out)
         (case side3 => exact cB_ HR142_2 HB)
         (case side4 => exact HC142_2.out)
         (case side5 => exact cB_ HR1 HB)
         (case side6 => exact HC1.out)
         rintro e w164 ⟨rfl, hb⟩
         refine ⟨_, rfl, ?_⟩
         have n0_ := bb_ BK115 hb
         have n1_ := bb_ BK116 hb
         have n2_ := bb_ BK117 hb
         have n3_ := bb_ BK118 hb
         have n4_ := bs_ HB hb
         have z_BK151 := fun (h0_ : b 9 = true) (h1_ : b 10 = false) => (show w164.heap[gb151]? = some (.cells #[.int .u64 0, .int .u64 0, .int .u64 0, .int .u64 0] 71 (0, 0)) from by first | exact (blk_below (g := gb151) (o := .cells #[.int .u64 0, .int .u64 0, .int .u64 0, .int .u64 0] 71 (0, 0)) (ub_ ((Q_BK151 h0_ h1_))) hb))
         clear BK115
         clear BK116
         clear BK117
         clear BK118
         clear HB
         have BK115 := n0_
         have BK116 := n1_
         have BK117 := n2_
         have BK118 := n3_
         have HB := n4_
         clear n0_ n1_ n2_ n3_ n4_
         (try clear hb)
         (try clear hb2)
         (try clear hk)
         (try clear hi)
         refine hK.out _ _ ⟨gb151, m9_, (by rw [ha.out]; exact putSel_upk 5 hb_ rfl rfl rfl), (ub_ BK115.out), (ub_ BK116.out), (ub_ BK117.out), (ub_ BK118.out), (bw_ HB.out), z_BK151, Q_GW151, Q_GE151, Q_NB115_151, Q_NB151_115, Q_NB116_151, Q_NB151_116, Q_NB117_151, Q_NB151_117, Q_NB118_151, Q_NB151_118, hf_ (hoff 10 (by kernel_rfl)), Q_X9_⟩
       refine steps_cons ?_ ?_
       · rintro b a w' ⟨gb151, m9_, ha, Q_BK115, Q_BK116, Q_BK117, Q_BK118, Q_HB, Q_BK151, Q_GW151, Q_GE151, Q_NB115_151, Q_NB151_115, Q_NB116_151, Q_NB151_116, Q_NB117_151, Q_NB151_117, Q_NB118_151, Q_NB151_118, Q_BK151_e10, Q_X9_⟩ hb_ hon hoff
         refine ⟨_, rfl, fun K hK => ?_⟩
         have e73 : a.tmps[73]? = some (.agg #[.int .u64 x119000_1, .int .u64 x119001_1, .int .u64 x119002_1, .int .u64 x119003_1]) := by rw [ha]; exact putSel_on (e := (0, 73, .agg #[.int .u64 x119000_1, .int .u64 x119001_1, .int .u64 x119002_1, .int .u64 x119003_1])) 0 rfl rfl (hon 0 (by kernel_rfl)) rfl
         have e80 : a.tmps[80]? = some (.agg #[.int .u64 t143, .int .u64 t144, .int .u64 t145, .int .u64 t146]) := by rw [ha]; exact putSel_on (e := (7, 80, .agg #[.int .u64 t143, .int .u64 t144, .int .u64 t145, .int .u64 t146])) 5 rfl rfl (hon 7 (by kernel_rfl)) rfl
         replace ha := aM ha
         have BK115 := aM Q_BK115
         have BK116 := aM Q_BK116
         have BK117 := aM Q_BK117
         have BK118 := aM Q_BK118
         have HB := aM Q_HB
         refine goes_ Try.func82 (by kernel_rfl) rfl #[.agg #[.int .u64 x119000_1, .int .u64 x119001_1, .int .u64 x119002_1, .int .u64 x119003_1], .agg #[.int .u64 t143, .int .u64 t144, .int .u64 t145, .int .u64 t146]] (by rfl) rfl rfl (by first | (simp only [List.map_toArray, List.map_cons, List.map_nil, Act.eval, Array.getD_eq_getD_getElem?, Option.getD_some, e73, e80]; done) | (simp only [List.map_toArray, List.map_cons, List.map_nil, Act.eval, Array.getD_eq_getD_getElem?, Option.getD_some, e73, e80]; rfl)) ?_
         with_reducible refine (pat_places_with.calls x119000_1 x119001_1 x119002_1 x119003_1 t143 t144 t145 t146 t147 t148 t149 t150 _ A140.out).mono ?_
         rintro e w166 ⟨rfl, hb⟩
         refine ⟨_, rfl, ?_⟩
         have n0_ := bb_ BK115 hb
         have n1_ := bb_ BK116 hb
         have n2_ := bb_ BK117 hb
         have n3_ := bb_ BK118 hb
         have n4_ := bs_ HB hb
         have z_BK151 := fun (h0_ : b 9 = true) (h1_ : b 10 = false) => (show w166.heap[gb151]? = some (.cells #[.int .u64 0, .int .u64 0, .int .u64 0, .int .u64 0] 71 (0, 0)) from by first | exact (blk_below (g := gb151) (o := .cells #[.int .u64 0, .int .u64 0, .int .u64 0, .int .u64 0] 71 (0, 0)) (ub_ ((Q_BK151 h0_ h1_))) hb))
         clear BK115
         clear BK116
         clear BK117
         clear BK118
         clear HB
         have BK115 := n0_
         have BK116 := n1_
         have BK117 := n2_
         have BK118 := n3_
         have HB := n4_
         clear n0_ n1_ n2_ n3_ n4_
         (try clear hb)
         (try clear hb2)
         (try clear hk)
         (try clear hi)
         refine hK.out _ _ ⟨gb151, m9_, (by rw [ha.out]; exact putSel_upk 6 hb_ rfl rfl rfl), (ub_ BK115.out), (ub_ BK116.out), (ub_ BK117.out), (ub_ BK118.out), (bw_ HB.out), z_BK151, Q_GW151, Q_GE151, Q_NB115_151, Q_NB151_115, Q_NB116_151, Q_NB151_116, Q_NB117_151, Q_NB151_117, Q_NB118_151, Q_NB151_118, hf_ (hoff 10 (by kernel_rfl)), Q_X9_⟩
       refine steps_cons ?_ ?_
       · rintro b a w' ⟨gb151, m9_, ha, Q_BK115, Q_BK116, Q_BK117, Q_BK118, Q_HB, Q_BK151, Q_GW151, Q_GE151, Q_NB115_151, Q_NB151_115, Q_NB116_151, Q_NB151_116, Q_NB117_151, Q_NB151_117, Q_NB118_151, Q_NB151_118, Q_BK151_e10, Q_X9_⟩ hb_ hon hoff
         refine ⟨_, rfl, fun K hK => ?_⟩
         replace ha := aM ha
         have BK115 := aM Q_BK115
         have BK116 := aM Q_BK116
         have BK117 := aM Q_BK117
         have BK118 := aM Q_BK118
         have HB := aM Q_HB
         refine box_step ?hg (N := 14) ?hd (cs := #[.int .u64 0, .int .u64 0, .int .u64 0, .int .u64 0]) (t := 71) ?hr ?_; (case hd => rfl); (case hg => rfl); (case hr => first | (go_simp; done) | (go_simp; rfl))
         intro gb151 hg w164 hbox hb
         have BK151 := aM hbox
         have GW151 := ge_ HB hg
         have GE151 := ge_ HB hg
         have NB115_151 := nl_ BK115 hg
         have NB151_115 := ng_ BK115 hg
         have NB116_151 := nl_ BK116 hg
         have NB151_116 := ng_ BK116 hg
         have NB117_151 := nl_ BK117 hg
         have NB151_117 := ng_ BK117 hg
         have NB118_151 := nl_ BK118 hg
         have NB151_118 := ng_ BK118 hg
         replace BK115 := bb_ BK115 hb
         replace BK116 := bb_ BK116 hb
         replace BK117 := bb_ BK117 hb
         replace BK118 := bb_ BK118 hb
         replace HB := bs_ HB hb
         clear hb hbox hg
         refine hK.out _ _ ⟨gb151, (.pointer (some ⟨gb151, 0, none⟩)), (by rw [ha.out]; exact putSel_upk 7 hb_ rfl rfl rfl), (ub_ BK115.out), (ub_ BK116.out), (ub_ BK117.out), (ub_ BK118.out), (bw_ HB.out), fun _ _ => (ub_ BK151.out), fun _ => GW151.out, fun _ => GE151.out, fun _ => NB115_151.out, fun _ => NB151_115.out, fun _ => NB116_151.out, fun _ => NB151_116.out, fun _ => NB117_151.out, fun _ => NB151_117.out, fun _ => NB118_151.out, fun _ => NB151_118.out, hf_ (hoff 10 (by kernel_rfl)), fun _ => rfl⟩
       refine steps_cons ?_ ?_
       · rintro b a w' ⟨gb151, m9_, ha, Q_BK115, Q_BK116, Q_BK117, Q_BK118, Q_HB, Q_BK151, Q_GW151, Q_GE151, Q_NB115_151, Q_NB151_115, Q_NB116_151, Q_NB151_116, Q_NB117_151, Q_NB151_117, Q_NB118_151, Q_NB151_118, Q_BK151_e10, Q_X9_⟩ hb_ hon hoff
         refine ⟨_, rfl, fun K hK => ?_⟩
         have e14 : a.tmps[14]? = some (m9_) := by rw [ha]; exact putSel_on (e := (9, 14, m9_)) 7 rfl rfl (hon 9 (by kernel_rfl)) rfl
         rw [Q_X9_ (hon 9 (by kernel_rfl))] at e14
         have e81 : a.tmps[81]? = some (.agg #[.int .u64 t147, .int .u64 t148, .int .u64 t149, .int .u64 t150]) := by rw [ha]; exact putSel_on (e := (8, 81, .agg #[.int .u64 t147, .int .u64 t148, .int .u64 t149, .int .u64 t150])) 6 rfl rfl (hon 8 (by kernel_rfl)) rfl
         replace ha := aM ha
         have BK115 := aM Q_BK115
         have BK116 := aM Q_BK116
         have BK117 := aM Q_BK117
         have BK118 := aM Q_BK118
         have HB := aM Q_HB
         have BK151 := aM (Q_BK151 (hon 9 (by kernel_rfl)) hb_)
         have GW151 := aM (Q_GW151 (hon 9 (by kernel_rfl)))
         have GE151 := aM (Q_GE151 (hon 9 (by kernel_rfl)))
         have NB115_151 := aM (Q_NB115_151 (hon 9 (by kernel_rfl)))
         have NB151_115 := aM (Q_NB151_115 (hon 9 (by kernel_rfl)))
         have NB116_151 := aM (Q_NB116_151 (hon 9 (by kernel_rfl)))
         have NB151_116 := aM (Q_NB151_116 (hon 9 (by kernel_rfl)))
         have NB117_151 := aM (Q_NB117_151 (hon 9 (by kernel_rfl)))
         have NB151_117 := aM (Q_NB151_117 (hon 9 (by kernel_rfl)))
         have NB118_151 := aM (Q_NB118_151 (hon 9 (by kernel_rfl)))
         have NB151_118 := aM (Q_NB151_118 (hon 9 (by kernel_rfl)))
         have hs168 : w'.cell? ⟨gb151, 0, none⟩ = some (.int .u64 0) := (blk_cell BK151.out 0).trans rfl
         have hfs168 := bF BK151.out 0
         have hns168_0 := NB115_151.out
         have hns168_1 := NB116_151.out
         have hns168_2 := NB117_151.out
         have hns168_3 := NB118_151.out
         have hms168_0 := NB151_115.out
         have hms168_1 := NB151_116.out
         have hms168_2 := NB151_117.out
         have hms168_3 := NB151_118.out
         have hs169 : w'.cell? ⟨gb151, 1, none⟩ = some (.int .u64 0) := (blk_cell BK151.out 1).trans rfl
         have hfs169 := bF BK151.out 1
         have hns169_0 := NB115_151.out
         have hns169_1 := NB116_151.out
         have hns169_2 := NB117_151.out
         have hns169_3 := NB118_151.out
         have hms169_0 := NB151_115.out
         have hms169_1 := NB151_116.out
         have hms169_2 := NB151_117.out
         have hms169_3 := NB151_118.out
         have hs170 : w'.cell? ⟨gb151, 2, none⟩ = some (.int .u64 0) := (blk_cell BK151.out 2).trans rfl
         have hfs170 := bF BK151.out 2
         have hns170_0 := NB115_151.out
         have hns170_1 := NB116_151.out
         have hns170_2 := NB117_151.out
         have hns170_3 := NB118_151.out
         have hms170_0 := NB151_115.out
         have hms170_1 := NB151_116.out
         have hms170_2 := NB151_117.out
         have hms170_3 := NB151_118.out
         have hs171 : w'.cell? ⟨gb151, 3, none⟩ = some (.int .u64 0) := (blk_cell BK151.out 3).trans rfl
         have hfs171 := bF BK151.out 3
         have hns171_0 := NB115_151.out
         have hns171_1 := NB116_151.out
         have hns171_2 := NB117_151.out
         have hns171_3 := NB118_151.out
         have hms171_0 := NB151_115.out
         have hms171_1 := NB151_116.out
         have hms171_2 := NB151_117.out
         have hms171_3 := NB151_118.out
         refine skip_ (w1 := ?_) (by rfl) rfl ?_ ?_
         rotate_left
         · go_simp
           rfl
         refine hK.out _ _ ⟨gb151, m9_, (by rw [ha.out]; exact putSel_none (v := undef) rfl), (ub_ BK115.out), (ub_ BK116.out), (ub_ BK117.out), (ub_ BK118.out), (bw_ HB.out), fun _ h1_ => absurd ((up_self b 10).symm.trans h1_) (by decide), fun _ => GW151.out, fun _ => GE151.out, fun _ => NB115_151.out, fun _ => NB151_115.out, fun _ => NB116_151.out, fun _ => NB151_116.out, fun _ => NB117_151.out, fun _ => NB151_117.out, fun _ => NB118_151.out, fun _ => NB151_118.out, fun _ => (ub_ BK151.out), Q_X9_⟩
       exact steps_nil
     rintro b a w171 hall ⟨gb151, m9_, ha, Q_BK115, Q_BK116, Q_BK117, Q_BK118, Q_HB, Q_BK151, Q_GW151, Q_GE151, Q_NB115_151, Q_NB151_115, Q_NB116_151, Q_NB151_116, Q_NB117_151, Q_NB151_117, Q_NB118_151, Q_NB151_118, Q_BK151_e10, Q_X9_⟩
     clear BK115 BK116 BK117 BK118 HB
     have hb0_ := hall 0 (by kernel_rfl)
     have hb2_ := hall 2 (by kernel_rfl)
     have hb3_ := hall 3 (by kernel_rfl)
     have hb4_ := hall 4 (by kernel_rfl)
     have hb6_ := hall 6 (by kernel_rfl)
     have hb7_ := hall 7 (by kernel_rfl)
     have hb8_ := hall 8 (by kernel_rfl)
     have hb9_ := hall 9 (by kernel_rfl)
     have hb10_ := hall 10 (by kernel_rfl)
     subst ha
     obtain rfl := Q_X9_ hb9_
     simp only [putSel, hb0_, hb2_, hb3_, hb4_, hb6_, hb7_, hb8_, hb9_, hb10_, if_true, Act.put, sT, sZ, sS]
     have BK115 := aM Q_BK115
     clear Q_BK115
     have BK116 := aM Q_BK116
     clear Q_BK116
     have BK117 := aM Q_BK117
     clear Q_BK117
     have BK118 := aM Q_BK118
     clear Q_BK118
     have HB := aM Q_HB
     clear Q_HB
     clear Q_BK151
     have GW151 := aM (Q_GW151 hb9_)
     clear Q_GW151
     have GE151 := aM (Q_GE151 hb9_)
     clear Q_GE151
     have NB115_151 := aM (Q_NB115_151 hb9_)
     clear Q_NB115_151
     have NB151_115 := aM (Q_NB151_115 hb9_)
     clear Q_NB151_115
     have NB116_151 := aM (Q_NB116_151 hb9_)
     clear Q_NB116_151
     have NB151_116 := aM (Q_NB151_116 hb9_)
     clear Q_NB151_116
     have NB117_151 := aM (Q_NB117_151 hb9_)
     clear Q_NB117_151
     have NB151_117 := aM (Q_NB151_117 hb9_)
     clear Q_NB151_117
     have NB118_151 := aM (Q_NB118_151 hb9_)
     clear Q_NB118_151
     have NB151_118 := aM (Q_NB151_118 hb9_)
     clear Q_NB151_118
     have BK151 := aM (Q_BK151_e10 hb10_)
     clear Q_BK151_e10
     clear hall hb0_ hb2_ hb3_ hb4_ hb6_ hb7_ hb8_ hb9_ hb10_
     have hnb172 := NB151_115.out
     have hnc172 := NB115_151.out
     have hnb173 := NB151_116.out
     have hnc173 := NB116_151.out
     have hnb174 := NB151_117.out
     have hnc174 := NB117_151.out
     have hnb175 := NB151_118.out
     have hnc175 := NB118_151.out
     obtain ⟨hcz176_0, hcz176_1, hcz176_2, hcz176_3, hfz176_0, hfz176_1, hfz176_2, hfz176_3⟩ := bc4_ BK151
     have hnb177 := NB118_115.out
     have hnc177 := NB115_118.out
     have hnb178 := NB118_116.out
     have hnc178 := NB116_118.out
     have hnb179 := NB118_117.out
     have hnc179 := NB117_118.out
     obtain ⟨hcz180_0, hcz180_1, hcz180_2, hcz180_3, hfz180_0, hfz180_1, hfz180_2, hfz180_3⟩ := bc4_ BK118
     try go_wp2
     repeat (go_step3; try go_wp2_with (fail))
     go_roundg k1
     case measure => have := HK1.out; omega
     case rel => exact ⟨(t147), (t148), (t149), (t150), H', ⟨by have := HK1.out; omega⟩, ⟨by (with_reducible repeat (first | apply bkN | apply bkD | apply bkA)); refine blk_far ?_ NB115_118.out _; (with_reducible repeat (first | apply bkN | apply bkD | apply bkA)); refine blk_far ?_ NB115_118.out _; (with_reducible repeat (first | apply bkN | apply bkD | apply bkA)); refine blk_far ?_ NB115_118.out _; (with_reducible repeat (first | apply bkN | apply bkD | apply bkA)); refine blk_far ?_ NB115_118.out _; (with_reducible repeat (first | apply bkN | apply bkD | apply bkA)); exact BK115.out⟩, ⟨by (with_reducible repeat (first | apply bkN | apply bkD | apply bkA)); refine blk_far ?_ NB116_118.out _; (with_reducible repeat (first | apply bkN | apply bkD | apply bkA)); refine blk_far ?_ NB116_118.out _; (with_reducible repeat (first | apply bkN | apply bkD | apply bkA)); refine blk_far ?_ NB116_118.out _; (with_reducible repeat (first | apply bkN | apply bkD | apply bkA)); refine blk_far ?_ NB116_118.out _; (with_reducible repeat (first | apply bkN | apply bkD | apply bkA)); exact BK116.out⟩, ⟨by (with_reducible repeat (first | apply bkN | apply bkD | apply bkA)); refine blk_far ?_ NB117_118.out _; (with_reducible repeat (first | apply bkN | apply bkD | apply bkA)); refine blk_far ?_ NB117_118.out _; (with_reducible repeat (first | apply bkN | apply bkD | apply bkA)); refine blk_far ?_ NB117_118.out _; (with_reducible repeat (first | apply bkN | apply bkD | apply bkA)); refine blk_far ?_ NB117_118.out _; (with_reducible repeat (first | apply bkN | apply bkD | apply bkA)); exact BK117.out⟩, ⟨by (with_reducible repeat (first | apply bkN | apply bkD | apply bkA)); refine blk_put (cs := #[.int .u64 t147, .int .u64 t148, .int .u64 t149, .int .u64 x119003_1]) ?_ 3 _ rfl; (with_reducible repeat (first | apply bkN | apply bkD | apply bkA)); refine blk_put (cs := #[.int .u64 t147, .int .u64 t148, .int .u64 x119002_1, .int .u64 x119003_1]) ?_ 2 _ rfl; (with_reducible repeat (first | apply bkN | apply bkD | apply bkA)); refine blk_put (cs := #[.int .u64 t147, .int .u64 x119001_1, .int .u64 x119002_1, .int .u64 x119003_1]) ?_ 1 _ rfl; (with_reducible repeat (first | apply bkN | apply bkD | apply bkA)); refine blk_put (cs := #[.int .u64 x119000_1, .int .u64 x119001_1, .int .u64 x119002_1, .int .u64 x119003_1]) ?_ 0 _ rfl; (with_reducible repeat (first | apply bkN | apply bkD | apply bkA)); exact BK118.out⟩, ⟨bw_ HB.out⟩⟩
   rw [if_pos c141] at H
   have c141b0 : (t147 == x119000_1 && (t148 == x119001_1 && (t149 == x119002_1 && (t150 == x119003_1)))) = true := c141
   (try (have c141b1 : decide (t147 = x119000_1 && (t148 == x119001_1 && (t149 == x119002_1 && (t150 == x119003_1)))) = true := by simpa using c141))
   (try (have c141b2 : (t147 == x119000_1 && (t148 == x119001_1 && (t149 == x119002_1 && (t150 == x119003_1)))) = true := by simpa using c141))
   clear c141
   simp only [Option.some.injEq, Prod.mk.injEq] at H
   obtain ⟨rfl, rfl, rfl, rfl⟩ := H
   try go_wp2
   repeat (go_step3; try go_wp2_with (fail))
   replace BK115 := aM (blk_drew BK115.out)
   replace BK116 := aM (blk_drew BK116.out)
   replace BK117 := aM (blk_drew BK117.out)
   replace BK118 := aM (blk_drew BK118.out)
   replace HB := aM (below_drew1 HB.out)
   have p142 : 0 ≤ (0 : Int) := (by omega)
   have q142 : 0 < (l0_2.length : Int) := od_
   obtain ⟨ad142, A142_1, c142_1, A142_2, c142_2, e142, hx142_0, hx142_1, hx142_2, hl142_1, hi142_1, hl142_2, hi142_2⟩ := at_T25 HR0_2.out 0 p142 q142
   have hw142_2 := hx142_2
   (try rw [show ((0 : Int)).toNat = 0 from rfl] at hw142_2)
   (try rw [show 0 * 3 = 0 from rfl] at hw142_2)
   (try rw [Addr.add_zero'] at hw142_2)
   have hw142_1 := hx142_1
   (try rw [show ((0 : Int)).toNat = 0 from rfl] at hw142_1)
   (try rw [show 0 * 3 = 0 from rfl] at hw142_1)
   (try rw [Addr.add_zero'] at hw142_1)
   have hw142_0 := hx142_0
   (try rw [show ((0 : Int)).toNat = 0 from rfl] at hw142_0)
   (try rw [show 0 * 3 = 0 from rfl] at hw142_0)
   (try rw [Addr.add_zero'] at hw142_0)
   cases e142
   have qi142 : (0 < l0_2.length) = True := eq_true (by omega)
   (try rw [show ((0 : Int)).toNat = 0 from rfl] at hx142_0)
   (try rw [show 0 * 3 = 0 from rfl] at hx142_0)
   (try rw [Addr.add_zero'] at hx142_0)
   (try rw [show ((0 : Int)).toNat = 0 from rfl] at hx142_1)
   (try rw [show 0 * 3 = 0 from rfl] at hx142_1)
   (try rw [Addr.add_zero'] at hx142_1)
   (try rw [show ((0 : Int)).toNat = 0 from rfl] at hx142_2)
   (try rw [show 0 * 3 = 0 from rfl] at hx142_2)
   (try rw [Addr.add_zero'] at hx142_2)
   replace hx142_0 := hx_ HB hx142_0
   replace hx142_1 := hx_ HB hx142_1
   replace hx142_2 := hx_ HB hx142_2
   have HR142_1 := aM hi142_1
   have HC142_1 := aM hl142_1
   clear hi142_1 hl142_1
   have HR142_2 := aM hi142_2
   have HC142_2 := aM hl142_2
   clear hi142_2 hl142_2
   replace p142 := eq_true p142
   replace q142 := eq_true q142
   refine start_ (n := 11) (S := fun w' => True) (ds := []) (tf 0 11) (by kernel_rfl) rfl rfl trivial (fun hHeld => ?_); refine with_tabW pat_ends.tab25 pat_ends.bits25 (fun HT_ HW_ => ?_)
   generalize wr.drew = w142 at BK115 BK116 BK117 BK118 HB HR142_1 HR142_2 hx142_0 hx142_1 hx142_2 hHeld ⊢
   refine pA_ 1 (some 74) ?_
   refine pA_ 5 (some 78) ?_
   refine inv_at [0, 2, 3, 4, 6, 7, 8, 9, 10] (fun a0_ b a w' => ∃ (gb151 : Nat) (m9_ : Value), a = putSel a0_ b [(0, 73, .agg #[.int .u64 x119000_1, .int .u64 x119001_1, .int .u64 x119002_1, .int .u64 x119003_1]), (2, 75, .slice (some ad142) l0_2.length c0_2), (3, 76, .pointer (some ad142)), (4, 77, .agg #[.int .i64 ((rd_T25 l0_2 0).f0), .slice A142_1 ((rd_T25 l0_2 0).f1).length c142_1, .slice A142_2 ((rd_T25 l0_2 0).f2).length c142_2]), (6, 79, .agg #[.int .u64 x119000_1, .int .u64 x119001_1, .int .u64 x119002_1, .int .u64 x119003_1]), (7, 80, .agg #[.int .u64 t143, .int .u64 t144, .int .u64 t145, .int .u64 t146]), (8, 81, .agg #[.int .u64 t147, .int .u64 t148, .int .u64 t149, .int .u64 t150]), (9, 14, m9_)] ∧ (w'.heap[gb115]? = some (.cells #[.int .i64 a0_0, .slice A0_1 l0_1.length c0_1, .slice (some ad142) l0_2.length c0_2] 25 (0, 0))) ∧ (w'.heap[gb116]? = some (.cells #[.int .u64 a2_0, .int .u64 a2_1, .int .u64 a2_2, .int .u64 a2_3] 71 (0, 0))) ∧ (w'.heap[gb117]? = some (.cells #[.int .u64 0, .int .u64 0, .int .u64 0, .int .u64 0] 71 (0, 0))) ∧ (w'.heap[gb118]? = some (.cells #[.int .u64 x119000_1, .int .u64 x119001_1, .int .u64 x119002_1, .int .u64 x119003_1] 71 (0, 0))) ∧ (Below w.heap.size w w') ∧ (b 9 = true → b 10 = false → w'.heap[gb151]? = some (.cells #[.int .u64 0, .int .u64 0, .int .u64 0, .int .u64 0] 71 (0, 0))) ∧ (b 9 = true → w.heap.size ≤ gb151) ∧ (b 9 = true → w.heap.size ≤ gb151) ∧ (b 9 = true → gb115 ≠ gb151) ∧ (b 9 = true → gb151 ≠ gb115) ∧ (b 9 = true → gb116 ≠ gb151) ∧ (b 9 = true → gb151 ≠ gb116) ∧ (b 9 = true → gb117 ≠ gb151) ∧ (b 9 = true → gb151 ≠ gb117) ∧ (b 9 = true → gb118 ≠ gb151) ∧ (b 9 = true → gb151 ≠ gb118) ∧ (b 10 = true → w'.heap[gb151]? = some (.cells #[.int .u64 t147, .int .u64 t148, .int .u64 t149, .int .u64 t150] 71 (0, 0))) ∧ (b 9 = true → (m9_ : Value) = .pointer (some ⟨gb151, 0, none⟩))) HT_.out HW_.out (by kernel_rfl) (by kernel_rfl) ?_ ?_ ?_
   · exact ⟨0, .bool false, by simp only [putSel, Bool.false_eq_true, if_false], BK115.out, BK116.out, BK117.out, BK118.out, HB.out, fun h_ => absurd h_ (by decide), fun h_ => absurd h_ (by decide), fun h_ => absurd h_ (by decide), fun h_ => absurd h_ (by decide), fun h_ => absurd h_ (by decide), fun h_ => absurd h_ (by decide), fun h_ => absurd h_ (by decide), fun h_ => absurd h_ (by decide), fun h_ => absurd h_ (by decide), fun h_ => absurd h_ (by decide), fun h_ => absurd h_ (by decide), fun h_ => absurd h_ (by decide), fun h_ => absurd h_ (by decide)⟩
   · skip
     clear BK115 BK116 BK117 BK118 HB
     refine steps_cons ?_ ?_
     · rintro b a w' ⟨gb151, m9_, ha, Q_BK115, Q_BK116, Q_BK117, Q_BK118, Q_HB, Q_BK151, Q_GW151, Q_GE151, Q_NB115_151, Q_NB151_115, Q_NB116_151, Q_NB151_116, Q_NB117_151, Q_NB151_117, Q_NB118_151, Q_NB151_118, Q_BK151_e10, Q_X9_⟩ hb_ hon hoff
       refine ⟨_, rfl, fun K hK => ?_⟩
       have e7 : a.tmps[7]? = some (.pointer (some ⟨gb118, 0, none⟩)) := by rw [ha]; exact (putSel_off rfl).trans rfl
       replace ha := aM ha
       have BK115 := aM Q_BK115
       have BK116 := aM Q_BK116
       have BK117 := aM Q_BK117
       have BK118 := aM Q_BK118
       have HB := aM Q_HB
       have hc0_ : w'.cell? ⟨gb118, 0, none⟩ = some (.int .u64 x119000_1) := (blk_cell BK118.out 0).trans rfl
       have hc1_ : w'.cell? ⟨gb118, 1, none⟩ = some (.int .u64 x119001_1) := (blk_cell BK118.out 1).trans rfl
       have hc2_ : w'.cell? ⟨gb118, 2, none⟩ = some (.int .u64 x119002_1) := (blk_cell BK118.out 2).trans rfl
       have hc3_ : w'.cell? ⟨gb118, 3, none⟩ = some (.int .u64 x119003_1) := (blk_cell BK118.out 3).trans rfl
       refine value_ (w1 := w') (v := .agg #[.int .u64 x119000_1, .int .u64 x119001_1, .int .u64 x119002_1, .int .u64 x119003_1]) (by rfl) rfl ?_ ?_
       · go_simp
         (try simp only [i64_w])
         try rfl
       refine hK.out _ _ ⟨gb151, m9_, (by rw [ha.out]; exact putSel_upk 0 hb_ rfl rfl rfl), Q_BK115, Q_BK116, Q_BK117, Q_BK118, Q_HB, Q_BK151, Q_GW151, Q_GE151, Q_NB115_151, Q_NB151_115, Q_NB116_151, Q_NB151_116, Q_NB117_151, Q_NB151_117, Q_NB118_151, Q_NB151_118, hf_ (hoff 10 (by kernel_rfl)), Q_X9_⟩
     refine steps_cons ?_ ?_
     · rintro b a w' ⟨gb151, m9_, ha, Q_BK115, Q_BK116, Q_BK117, Q_BK118, Q_HB, Q_BK151, Q_GW151, Q_GE151, Q_NB115_151, Q_NB151_115, Q_NB116_151, Q_NB151_116, Q_NB117_151, Q_NB151_117, Q_NB118_151, Q_NB151_118, Q_BK151_e10, Q_X9_⟩ hb_ hon hoff
       refine ⟨_, rfl, fun K hK => ?_⟩
       have e74 : a.tmps[74]? = some (.pointer (some ⟨gb115, 2, none⟩)) := by rw [ha]; exact (putSel_off rfl).trans rfl
       replace ha := aM ha
       have BK115 := aM Q_BK115
       have BK116 := aM Q_BK116
       have BK117 := aM Q_BK117
       have BK118 := aM Q_BK118
       have HB := aM Q_HB
       have hc0_ : w'.cell? ⟨gb115, 0, none⟩ = some (.int .i64 a0_0) := (blk_cell BK115.out 0).trans rfl
       have hc1_ : w'.cell? ⟨gb115, 1, none⟩ = some (.slice A0_1 l0_1.length c0_1) := (blk_cell BK115.out 1).trans rfl
       have hc2_ : w'.cell? ⟨gb115, 2, none⟩ = some (.slice (some ad142) l0_2.length c0_2) := (blk_cell BK115.out 2).trans rfl
       refine value_ (w1 := w') (v := .slice (some ad142) l0_2.length c0_2) (by rfl) rfl ?_ ?_
       · go_simp
         (try simp only [i64_w])
         try rfl
       refine hK.out _ _ ⟨gb151, m9_, (by rw [ha.out]; exact putSel_upk 1 hb_ rfl rfl rfl), Q_BK115, Q_BK116, Q_BK117, Q_BK118, Q_HB, Q_BK151, Q_GW151, Q_GE151, Q_NB115_151, Q_NB151_115, Q_NB116_151, Q_NB151_116, Q_NB117_151, Q_NB151_117, Q_NB118_151, Q_NB151_118, hf_ (hoff 10 (by kernel_rfl)), Q_X9_⟩
     refine steps_cons ?_ ?_
     · rintro b a w' ⟨gb151, m9_, ha, Q_BK115, Q_BK116, Q_BK117, Q_BK118, Q_HB, Q_BK151, Q_GW151, Q_GE151, Q_NB115_151, Q_NB151_115, Q_NB116_151, Q_NB151_116, Q_NB117_151, Q_NB151_117, Q_NB118_151, Q_NB151_118, Q_BK151_e10, Q_X9_⟩ hb_ hon hoff
       refine ⟨_, rfl, fun K hK => ?_⟩
       have e75 : a.tmps[75]? = some (.slice (some ad142) l0_2.length c0_2) := by rw [ha]; exact putSel_on (e := (2, 75, .slice (some ad142) l0_2.length c0_2)) 1 rfl rfl (hon 2 (by kernel_rfl)) rfl
       replace ha := aM ha
       have BK115 := aM Q_BK115
       have BK116 := aM Q_BK116
       have BK117 := aM Q_BK117
       have BK118 := aM Q_BK118
       have HB := aM Q_HB
       have hs0_ : w'.cell? ad142 = some (.int .i64 ((rd_T25 l0_2 0).f0)) := ((HB.out.cell (World.block_lt_of_cell? w _ hw142_0)).trans hw142_0)
       have hs1_ : w'.cell? ⟨ad142.block, ad142.off + 1, none⟩ = some (.slice A142_1 ((rd_T25 l0_2 0).f1).length c142_1) := ((HB.out.cell (World.block_lt_of_cell? w _ hw142_1)).trans hw142_1)
       have hs2_ : w'.cell? ⟨ad142.block, ad142.off + 2, none⟩ = some (.slice A142_2 ((rd_T25 l0_2 0).f2).length c142_2) := ((HB.out.cell (World.block_lt_of_cell? w _ hw142_2)).trans hw142_2)
       refine value_ (w1 := w') (v := .pointer (some ad142)) (by rfl) rfl ?_ ?_
       · go_simp
         (try simp only [i64_w])
         try rfl
       refine hK.out _ _ ⟨gb151, m9_, (by rw [ha.out]; exact putSel_upk 2 hb_ rfl rfl rfl), Q_BK115, Q_BK116, Q_BK117, Q_BK118, Q_HB, Q_BK151, Q_GW151, Q_GE151, Q_NB115_151, Q_NB151_115, Q_NB116_151, Q_NB151_116, Q_NB117_151, Q_NB151_117, Q_NB118_151, Q_NB151_118, hf_ (hoff 10 (by kernel_rfl)), Q_X9_⟩
     refine steps_cons ?_ ?_
     · rintro b a w' ⟨gb151, m9_, ha, Q_BK115, Q_BK116, Q_BK117, Q_BK118, Q_HB, Q_BK151, Q_GW151, Q_GE151, Q_NB115_151, Q_NB151_115, Q_NB116_151, Q_NB151_116, Q_NB117_151, Q_NB151_117, Q_NB118_151, Q_NB151_118, Q_BK151_e10, Q_X9_⟩ hb_ hon hoff
       refine ⟨_, rfl, fun K hK => ?_⟩
       have e76 : a.tmps[76]? = some (.pointer (some ad142)) := by rw [ha]; exact putSel_on (e := (3, 76, .pointer (some ad142))) 2 rfl rfl (hon 3 (by kernel_rfl)) rfl
       replace ha := aM ha
       have BK115 := aM Q_BK115
       have BK116 := aM Q_BK116
       have BK117 := aM Q_BK117
       have BK118 := aM Q_BK118
       have HB := aM Q_HB
       have hs0_ : w'.cell? ad142 = some (.int .i64 ((rd_T25 l0_2 0).f0)) := ((HB.out.cell (World.block_lt_of_cell? w _ hw142_0)).trans hw142_0)
       have hs1_ : w'.cell? ⟨ad142.block, ad142.off + 1, none⟩ = some (.slice A142_1 ((rd_T25 l0_2 0).f1).length c142_1) := ((HB.out.cell (World.block_lt_of_cell? w _ hw142_1)).trans hw142_1)
       have hs2_ : w'.cell? ⟨ad142.block, ad142.off + 2, none⟩ = some (.slice A142_2 ((rd_T25 l0_2 0).f2).length c142_2) := ((HB.out.cell (World.block_lt_of_cell? w _ hw142_2)).trans hw142_2)
       refine value_ (w1 := w') (v := .agg #[.int .i64 ((rd_T25 l0_2 0).f0), .slice A142_1 ((rd_T25 l0_2 0).f1).length c142_1, .slice A142_2 ((rd_T25 l0_2 0).f2).length c142_2]) (by rfl) rfl ?_ ?_
       · go_simp
         (try simp only [i64_w])
         try rfl
       refine hK.out _ _ ⟨gb151, m9_, (by rw [ha.out]; exact putSel_upk 3 hb_ rfl rfl rfl), Q_BK115, Q_BK116, Q_BK117, Q_BK118, Q_HB, Q_BK151, Q_GW151, Q_GE151, Q_NB115_151, Q_NB151_115, Q_NB116_151, Q_NB151_116, Q_NB117_151, Q_NB151_117, Q_NB118_151, Q_NB151_118, hf_ (hoff 10 (by kernel_rfl)), Q_X9_⟩
     refine steps_cons ?_ ?_
     · rintro b a w' ⟨gb151, m9_, ha, Q_BK115, Q_BK116, Q_BK117, Q_BK118, Q_HB, Q_BK151, Q_GW151, Q_GE151, Q_NB115_151, Q_NB151_115, Q_NB116_151, Q_NB151_116, Q_NB117_151, Q_NB151_117, Q_NB118_151, Q_NB151_118, Q_BK151_e10, Q_X9_⟩ hb_ hon hoff
       refine ⟨_, rfl, fun K hK => ?_⟩
       have e7 : a.tmps[7]? = some (.pointer (some ⟨gb118, 0, none⟩)) := by rw [ha]; exact (putSel_off rfl).trans rfl
       replace ha := aM ha
       have BK115 := aM Q_BK115
       have BK116 := aM Q_BK116
       have BK117 := aM Q_BK117
       have BK118 := aM Q_BK118
       have HB := aM Q_HB
       have hc0_ : w'.cell? ⟨gb118, 0, none⟩ = some (.int .u64 x119000_1) := (blk_cell BK118.out 0).trans rfl
       have hc1_ : w'.cell? ⟨gb118, 1, none⟩ = some (.int .u64 x119001_1) := (blk_cell BK118.out 1).trans rfl
       have hc2_ : w'.cell? ⟨gb118, 2, none⟩ = some (.int .u64 x119002_1) := (blk_cell BK118.out 2).trans rfl
       have hc3_ : w'.cell? ⟨gb118, 3, none⟩ = some (.int .u64 x119003_1) := (blk_cell BK118.out 3).trans rfl
       refine value_ (w1 := w') (v := .agg #[.int .u64 x119000_1, .int .u64 x119001_1, .int .u64 x119002_1, .int .u64 x119003_1]) (by rfl) rfl ?_ ?_
       · go_simp
         (try simp only [i64_w])
         try rfl
       refine hK.out _ _ ⟨gb151, m9_, (by rw [ha.out]; exact putSel_upk 4 hb_ rfl rfl rfl), Q_BK115, Q_BK116, Q_BK117, Q_BK118, Q_HB, Q_BK151, Q_GW151, Q_GE151, Q_NB115_151, Q_NB151_115, Q_NB116_151, Q_NB151_116, Q_NB117_151, Q_NB151_117, Q_NB118_151, Q_NB151_118, hf_ (hoff 10 (by kernel_rfl)), Q_X9_⟩
     refine steps_cons ?_ ?_
     · rintro b a w' ⟨gb151, m9_, ha, Q_BK115, Q_BK116, Q_BK117, Q_BK118, Q_HB, Q_BK151, Q_GW151, Q_GE151, Q_NB115_151, Q_NB151_115, Q_NB116_151, Q_NB151_116, Q_NB117_151, Q_NB151_117, Q_NB118_151, Q_NB151_118, Q_BK151_e10, Q_X9_⟩ hb_ hon hoff
       refine ⟨_, rfl, fun K hK => ?_⟩
       have e77 : a.tmps[77]? = some (.agg #[.int .i64 ((rd_T25 l0_2 0).f0), .slice A142_1 ((rd_T25 l0_2 0).f1).length c142_1, .slice A142_2 ((rd_T25 l0_2 0).f2).length c142_2]) := by rw [ha]; exact putSel_on (e := (4, 77, .agg #[.int .i64 ((rd_T25 l0_2 0).f0), .slice A142_1 ((rd_T25 l0_2 0).f1).length c142_1, .slice A142_2 ((rd_T25 l0_2 0).f2).length c142_2])) 3 rfl rfl (hon 4 (by kernel_rfl)) rfl
       have e78 : a.tmps[78]? = some (.slice A1 l1.length c1) := by rw [ha]; exact (putSel_off rfl).trans rfl
       have e79 : a.tmps[79]? = some (.agg #[.int .u64 x119000_1, .int .u64 x119001_1, .int .u64 x119002_1, .int .u64 x119003_1]) := by rw [ha]; exact putSel_on (e := (6, 79, .agg #[.int .u64 x119000_1, .int .u64 x119001_1, .int .u64 x119002_1, .int .u64 x119003_1])) 4 rfl rfl (hon 6 (by kernel_rfl)) rfl
       replace ha := aM ha
       have BK115 := aM Q_BK115
       have BK116 := aM Q_BK116
       have BK117 := aM Q_BK117
       have BK118 := aM Q_BK118
       have HB := aM Q_HB
       refine goes_ Try.func46 (by kernel_rfl) rfl #[.agg #[.int .i64 ((rd_T25 l0_2 0).f0), .slice A142_1 ((rd_T25 l0_2 0).f1).length c142_1, .slice A142_2 ((rd_T25 l0_2 0).f2).length c142_2], .slice A1 l1.length c1, .agg #[.int .u64 x119000_1, .int .u64 x119001_1, .int .u64 x119002_1, .int .u64 x119003_1]] (by rfl) rfl rfl (by first | (simp only [List.map_toArray, List.map_cons, List.map_nil, Act.eval, Array.getD_eq_getD_getElem?, Option.getD_some, e77, e78, e79]; done) | (simp only [List.map_toArray, List.map_cons, List.map_nil, Act.eval, Array.getD_eq_getD_getElem?, Option.getD_some, e77, e78, e79]; rfl)) ?_
       with_reducible refine (ih k1 (by have := HK1.out; omega) ((rd_T25 l0_2 0).f0) _ _ ((rd_T25 l0_2 0).f1) _ _ ((rd_T25 l0_2 0).f2) _ _ l1 x119000_1 x119001_1 x119002_1 x119003_1 t143 t144 t145 t146 _ ?side1 ?side2 ?side3 ?side4 ?side5 ?side6 A139.out).mono ?_
       (case side1 => exact cB_ HR142_1 HB)
       (case side2 => exact HC142_1.out)
       (case side3 => exact cB_ HR142_2 HB)
       (case side4 => exact HC142_2.out)
       (case side5 => exact cB_ HR1 HB)
       (case side6 => exact HC1.out)
       rintro e w143 ⟨rfl, hb⟩
       refine ⟨_, rfl, ?_⟩
       have n0_ := bb_ BK115 hb
       have n1_ := bb_ BK116 hb
       have n2_ := bb_ BK117 hb
       have n3_ := bb_ BK118 hb
       have n4_ := bs_ HB hb
       have z_BK151 := fun (h0_ : b 9 = true) (h1_ : b 10 = false) => (show w143.heap[gb151]? = some (.cells #[.int .u64 0, .int .u64 0, .int .u64 0, .int .u64 0] 71 (0, 0)) from by first | exact (blk_below (g := gb151) (o := .cells #[.int .u64 0, .int .u64 0, .int .u64 0, .int .u64 0] 71 (0, 0)) (ub_ ((Q_BK151 h0_ h1_))) hb))
       clear BK115
       clear BK116
       clear BK117
       clear BK118
       clear HB
       have BK115 := n0_
       have BK116 := n1_
       have BK117 := n2_
       have BK118 := n3_
       have HB := n4_
       clear n0_ n1_ n2_ n3_ n4_
       (try clear hb)
       (try clear hb2)
       (try clear hk)
       (try clear hi)
       refine hK.out _ _ ⟨gb151, m9_, (by rw [ha.out]; exact putSel_upk 5 hb_ rfl rfl rfl), (ub_ BK115.out), (ub_ BK116.out), (ub_ BK117.out), (ub_ BK118.out), (bw_ HB.out), z_BK151, Q_GW151, Q_GE151, Q_NB115_151, Q_NB151_115, Q_NB116_151, Q_NB151_116, Q_NB117_151, Q_NB151_117, Q_NB118_151, Q_NB151_118, hf_ (hoff 10 (by kernel_rfl)), Q_X9_⟩
     refine steps_cons ?_ ?_
     · rintro b a w' ⟨gb151, m9_, ha, Q_BK115, Q_BK116, Q_BK117, Q_BK118, Q_HB, Q_BK151, Q_GW151, Q_GE151, Q_NB115_151, Q_NB151_115, Q_NB116_151, Q_NB151_116, Q_NB117_151, Q_NB151_117, Q_NB118_151, Q_NB151_118, Q_BK151_e10, Q_X9_⟩ hb_ hon hoff
       refine ⟨_, rfl, fun K hK => ?_⟩
       have e73 : a.tmps[73]? = some (.agg #[.int .u64 x119000_1, .int .u64 x119001_1, .int .u64 x119002_1, .int .u64 x119003_1]) := by rw [ha]; exact putSel_on (e := (0, 73, .agg #[.int .u64 x119000_1, .int .u64 x119001_1, .int .u64 x119002_1, .int .u64 x119003_1])) 0 rfl rfl (hon 0 (by kernel_rfl)) rfl
       have e80 : a.tmps[80]? = some (.agg #[.int .u64 t143, .int .u64 t144, .int .u64 t145, .int .u64 t146]) := by rw [ha]; exact putSel_on (e := (7, 80, .agg #[.int .u64 t143, .int .u64 t144, .int .u64 t145, .int .u64 t146])) 5 rfl rfl (hon 7 (by kernel_rfl)) rfl
       replace ha := aM ha
       have BK115 := aM Q_BK115
       have BK116 := aM Q_BK116
       have BK117 := aM Q_BK117
       have BK118 := aM Q_BK118
       have HB := aM Q_HB
       refine goes_ Try.func82 (by kernel_rfl) rfl #[.agg #[.int .u64 x119000_1, .int .u64 x119001_1, .int .u64 x119002_1, .int .u64 x119003_1], .agg #[.int .u64 t143, .int .u64 t144, .int .u64 t145, .int .u64 t146]] (by rfl) rfl rfl (by first | (simp only [List.map_toArray, List.map_cons, List.map_nil, Act.eval, Array.getD_eq_getD_getElem?, Option.getD_some, e73, e80]; done) | (simp only [List.map_toArray, List.map_cons, List.map_nil, Act.eval, Array.getD_eq_getD_getElem?, Option.getD_some, e73, e80]; rfl)) ?_
       with_reducible refine (pat_places_with.calls x119000_1 x119001_1 x119002_1 x119003_1 t143 t144 t145 t146 t147 t148 t149 t150 _ A140.out).mono ?_
       rintro e w145 ⟨rfl, hb⟩
       refine ⟨_, rfl, ?_⟩
       have n0_ := bb_ BK115 hb
       have n1_ := bb_ BK116 hb
       have n2_ := bb_ BK117 hb
       have n3_ := bb_ BK118 hb
       have n4_ := bs_ HB hb
       have z_BK151 := fun (h0_ : b 9 = true) (h1_ : b 10 = false) => (show w145.heap[gb151]? = some (.cells #[.int .u64 0, .int .u64 0, .int .u64 0, .int .u64 0] 71 (0, 0)) from by first | exact (blk_below (g := gb151) (o := .cells #[.int .u64 0, .int .u64 0, .int .u64 0, .int .u64 0] 71 (0, 0)) (ub_ ((Q_BK151 h0_ h1_))) hb))
       clear BK115
       clear BK116
       clear BK117
       clear BK118
       clear HB
       have BK115 := n0_
       have BK116 := n1_
       have BK117 := n2_
       have BK118 := n3_
       have HB := n4_
       clear n0_ n1_ n2_ n3_ n4_
       (try clear hb)
       (try clear hb2)
       (try clear hk)
       (try clear hi)
       refine hK.out _ _ ⟨gb151, m9_, (by rw [ha.out]; exact putSel_upk 6 hb_ rfl rfl rfl), (ub_ BK115.out), (ub_ BK116.out), (ub_ BK117.out), (ub_ BK118.out), (bw_ HB.out), z_BK151, Q_GW151, Q_GE151, Q_NB115_151, Q_NB151_115, Q_NB116_151, Q_NB151_116, Q_NB117_151, Q_NB151_117, Q_NB118_151, Q_NB151_118, hf_ (hoff 10 (by kernel_rfl)), Q_X9_⟩
     refine steps_cons ?_ ?_
     · rintro b a w' ⟨gb151, m9_, ha, Q_BK115, Q_BK116, Q_BK117, Q_BK118, Q_HB, Q_BK151, Q_GW151, Q_GE151, Q_NB115_151, Q_NB151_115, Q_NB116_151, Q_NB151_116, Q_NB117_151, Q_NB151_117, Q_NB118_151, Q_NB151_118, Q_BK151_e10, Q_X9_⟩ hb_ hon hoff
       refine ⟨_, rfl, fun K hK => ?_⟩
       replace ha := aM ha
       have BK115 := aM Q_BK115
       have BK116 := aM Q_BK116
       have BK117 := aM Q_BK117
       have BK118 := aM Q_BK118
       have HB := aM Q_HB
       refine box_step ?hg (N := 14) ?hd (cs := #[.int .u64 0, .int .u64 0, .int .u64 0, .int .u64 0]) (t := 71) ?hr ?_; (case hd => rfl); (case hg => rfl); (case hr => first | (go_simp; done) | (go_simp; rfl))
       intro gb151 hg w143 hbox hb
       have BK151 := aM hbox
       have GW151 := ge_ HB hg
       have GE151 := ge_ HB hg
       have NB115_151 := nl_ BK115 hg
       have NB151_115 := ng_ BK115 hg
       have NB116_151 := nl_ BK116 hg
       have NB151_116 := ng_ BK116 hg
       have NB117_151 := nl_ BK117 hg
       have NB151_117 := ng_ BK117 hg
       have NB118_151 := nl_ BK118 hg
       have NB151_118 := ng_ BK118 hg
       replace BK115 := bb_ BK115 hb
       replace BK116 := bb_ BK116 hb
       replace BK117 := bb_ BK117 hb
       replace BK118 := bb_ BK118 hb
       replace HB := bs_ HB hb
       clear hb hbox hg
       refine hK.out _ _ ⟨gb151, (.pointer (some ⟨gb151, 0, none⟩)), (by rw [ha.out]; exact putSel_upk 7 hb_ rfl rfl rfl), (ub_ BK115.out), (ub_ BK116.out), (ub_ BK117.out), (ub_ BK118.out), (bw_ HB.out), fun _ _ => (ub_ BK151.out), fun _ => GW151.out, fun _ => GE151.out, fun _ => NB115_151.out, fun _ => NB151_115.out, fun _ => NB116_151.out, fun _ => NB151_116.out, fun _ => NB117_151.out, fun _ => NB151_117.out, fun _ => NB118_151.out, fun _ => NB151_118.out, hf_ (hoff 10 (by kernel_rfl)), fun _ => rfl⟩
     refine steps_cons ?_ ?_
     · rintro b a w' ⟨gb151, m9_, ha, Q_BK115, Q_BK116, Q_BK117, Q_BK118, Q_HB, Q_BK151, Q_GW151, Q_GE151, Q_NB115_151, Q_NB151_115, Q_NB116_151, Q_NB151_116, Q_NB117_151, Q_NB151_117, Q_NB118_151, Q_NB151_118, Q_BK151_e10, Q_X9_⟩ hb_ hon hoff
       refine ⟨_, rfl, fun K hK => ?_⟩
       have e14 : a.tmps[14]? = some (m9_) := by rw [ha]; exact putSel_on (e := (9, 14, m9_)) 7 rfl rfl (hon 9 (by kernel_rfl)) rfl
       rw [Q_X9_ (hon 9 (by kernel_rfl))] at e14
       have e81 : a.tmps[81]? = some (.agg #[.int .u64 t147, .int .u64 t148, .int .u64 t149, .int .u64 t150]) := by rw [ha]; exact putSel_on (e := (8, 81, .agg #[.int .u64 t147, .int .u64 t148, .int .u64 t149, .int .u64 t150])) 6 rfl rfl (hon 8 (by kernel_rfl)) rfl
       replace ha := aM ha
       have BK115 := aM Q_BK115
       have BK116 := aM Q_BK116
       have BK117 := aM Q_BK117
       have BK118 := aM Q_BK118
       have HB := aM Q_HB
       have BK151 := aM (Q_BK151 (hon 9 (by kernel_rfl)) hb_)
       have GW151 := aM (Q_GW151 (hon 9 (by kernel_rfl)))
       have GE151 := aM (Q_GE151 (hon 9 (by kernel_rfl)))
       have NB115_151 := aM (Q_NB115_151 (hon 9 (by kernel_rfl)))
       have NB151_115 := aM (Q_NB151_115 (hon 9 (by kernel_rfl)))
       have NB116_151 := aM (Q_NB116_151 (hon 9 (by kernel_rfl)))
       have NB151_116 := aM (Q_NB151_116 (hon 9 (by kernel_rfl)))
       have NB117_151 := aM (Q_NB117_151 (hon 9 (by kernel_rfl)))
       have NB151_117 := aM (Q_NB151_117 (hon 9 (by kernel_rfl)))
       have NB118_151 := aM (Q_NB118_151 (hon 9 (by kernel_rfl)))
       have NB151_118 := aM (Q_NB151_118 (hon 9 (by kernel_rfl)))
       have hs147 : w'.cell? ⟨gb151, 0, none⟩ = some (.int .u64 0) := (blk_cell BK151.out 0).trans rfl
       have hfs147 := bF BK151.out 0
       have hns147_0 := NB115_151.out
       have hns147_1 := NB116_151.out
       have hns147_2 := NB117_151.out
       have hns147_3 := NB118_151.out
       have hms147_0 := NB151_115.out
       have hms147_1 := NB151_116.out
       have hms147_2 := NB151_117.out
       have hms147_3 := NB151_118.out
       have hs148 : w'.cell? ⟨gb151, 1, none⟩ = some (.int .u64 0) := (blk_cell BK151.out 1).trans rfl
       have hfs148 := bF BK151.out 1
       have hns148_0 := NB115_151.out
       have hns148_1 := NB116_151.out
       have hns148_2 := NB117_151.out
       have hns148_3 := NB118_151.out
       have hms148_0 := NB151_115.out
       have hms148_1 := NB151_116.out
       have hms148_2 := NB151_117.out
       have hms148_3 := NB151_118.out
       have hs149 : w'.cell? ⟨gb151, 2, none⟩ = some (.int .u64 0) := (blk_cell BK151.out 2).trans rfl
       have hfs149 := bF BK151.out 2
       have hns149_0 := NB115_151.out
       have hns149_1 := NB116_151.out
       have hns149_2 := NB117_151.out
       have hns149_3 := NB118_151.out
       have hms149_0 := NB151_115.out
       have hms149_1 := NB151_116.out
       have hms149_2 := NB151_117.out
       have hms149_3 := NB151_118.out
       have hs150 : w'.cell? ⟨gb151, 3, none⟩ = some (.int .u64 0) := (blk_cell BK151.out 3).trans rfl
       have hfs150 := bF BK151.out 3
       have hns150_0 := NB115_151.out
       have hns150_1 := NB116_151.out
       have hns150_2 := NB117_151.out
       have hns150_3 := NB118_151.out
       have hms150_0 := NB151_115.out
       have hms150_1 := NB151_116.out
       have hms150_2 := NB151_117.out
       have hms150_3 := NB151_118.out
       refine skip_ (w1 := ?_) (by rfl) rfl ?_ ?_
       rotate_left
       · go_simp
         rfl
       refine hK.out _ _ ⟨gb151, m9_, (by rw [ha.out]; exact putSel_none (v := undef) rfl), (ub_ BK115.out), (ub_ BK116.out), (ub_ BK117.out), (ub_ BK118.out), (bw_ HB.out), fun _ h1_ => absurd ((up_self b 10).symm.trans h1_) (by decide), fun _ => GW151.out, fun _ => GE151.out, fun _ => NB115_151.out, fun _ => NB151_115.out, fun _ => NB116_151.out, fun _ => NB151_116.out, fun _ => NB117_151.out, fun _ => NB151_117.out, fun _ => NB118_151.out, fun _ => NB151_118.out, fun _ => (ub_ BK151.out), Q_X9_⟩
     exact steps_nil
   rintro b a w150 hall ⟨gb151, m9_, ha, Q_BK115, Q_BK116, Q_BK117, Q_BK118, Q_HB, Q_BK151, Q_GW151, Q_GE151, Q_NB115_151, Q_NB151_115, Q_NB116_151, Q_NB151_116, Q_NB117_151, Q_NB151_117, Q_NB118_151, Q_NB151_118, Q_BK151_e10, Q_X9_⟩
   clear BK115 BK116 BK117 BK118 HB
   have hb0_ := hall 0 (by kernel_rfl)
   have hb2_ := hall 2 (by kernel_rfl)
   have hb3_ := hall 3 (by kernel_rfl)
   have hb4_ := hall 4 (by kernel_rfl)
   have hb6_ := hall 6 (by kernel_rfl)
   have hb7_ := hall 7 (by kernel_rfl)
   have hb8_ := hall 8 (by kernel_rfl)
   have hb9_ := hall 9 (by kernel_rfl)
   have hb10_ := hall 10 (by kernel_rfl)
   subst ha
   obtain rfl := Q_X9_ hb9_
   simp only [putSel, hb0_, hb2_, hb3_, hb4_, hb6_, hb7_, hb8_, hb9_, hb10_, if_true, Act.put, sT, sZ, sS]
   have BK115 := aM Q_BK115
   clear Q_BK115
   have BK116 := aM Q_BK116
   clear Q_BK116
   have BK117 := aM Q_BK117
   clear Q_BK117
   have BK118 := aM Q_BK118
   clear Q_BK118
   have HB := aM Q_HB
   clear Q_HB
   clear Q_BK151
   have GW151 := aM (Q_GW151 hb9_)
   clear Q_GW151
   have GE151 := aM (Q_GE151 hb9_)
   clear Q_GE151
   have NB115_151 := aM (Q_NB115_151 hb9_)
   clear Q_NB115_151
   have NB151_115 := aM (Q_NB151_115 hb9_)
   clear Q_NB151_115
   have NB116_151 := aM (Q_NB116_151 hb9_)
   clear Q_NB116_151
   have NB151_116 := aM (Q_NB151_116 hb9_)
   clear Q_NB151_116
   have NB117_151 := aM (Q_NB117_151 hb9_)
   clear Q_NB117_151
   have NB151_117 := aM (Q_NB151_117 hb9_)
   clear Q_NB151_117
   have NB118_151 := aM (Q_NB118_151 hb9_)
   clear Q_NB118_151
   have NB151_118 := aM (Q_NB151_118 hb9_)
   clear Q_NB151_118
   have BK151 := aM (Q_BK151_e10 hb10_)
   clear Q_BK151_e10
   clear hall hb0_ hb2_ hb3_ hb4_ hb6_ hb7_ hb8_ hb9_ hb10_
   have hnb151 := NB151_115.out
   have hnc151 := NB115_151.out
   have hnb152 := NB151_116.out
   have hnc152 := NB116_151.out
   have hnb153 := NB151_117.out
   have hnc153 := NB117_151.out
   have hnb154 := NB151_118.out
   have hnc154 := NB118_151.out
   obtain ⟨hcz155_0, hcz155_1, hcz155_2, hcz155_3, hfz155_0, hfz155_1, hfz155_2, hfz155_3⟩ := bc4_ BK151
   have hnb156 := NB118_115.out
   have hnc156 := NB115_118.out
   have hnb157 := NB118_116.out
   have hnc157 := NB116_118.out
   have hnb158 := NB118_117.out
   have hnc158 := NB117_118.out
   obtain ⟨hcz159_0, hcz159_1, hcz159_2, hcz159_3, hfz159_0, hfz159_1, hfz159_2, hfz159_3⟩ := bc4_ BK118
   have hnb160 := NB117_115.out
   have hnc160 := NB115_117.out
   have hnb161 := NB117_116.out
   have hnc161 := NB116_117.out
   obtain ⟨hcz162_0, hcz162_1, hcz162_2, hcz162_3, hfz162_0, hfz162_1, hfz162_2, hfz162_3⟩ := bc4_ BK117
   try go_wp2
   repeat (go_step3; try go_wp2_with (fail))
   refine bodyPost_ret (results_cell_row rfl _ _ gb117 71 #[.int .u64 x119000_1, .int .u64 x119001_1, .int .u64 x119002_1, .int .u64 x119003_1] (0, 0) _ rfl (ub_ BK117.out) Try.underlying71 rfl (by kernel_rfl)) rfl ?_
   exact fin_ HB
end Go.Proofs.Ytlkjfjlmjgkheaa.H
