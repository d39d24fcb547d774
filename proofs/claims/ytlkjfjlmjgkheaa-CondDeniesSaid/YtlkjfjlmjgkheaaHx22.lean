import Derived.Test.YtlkjfjlmjgkheaaHx0
import Derived.Test.YtlkjfjlmjgkheaaHx8
import Derived.Test.YtlkjfjlmjgkheaaHx9
import Derived.Test.YtlkjfjlmjgkheaaHx11
import Derived.Test.YtlkjfjlmjgkheaaHx12
import Derived.Test.YtlkjfjlmjgkheaaHx21
namespace Go.Proofs.Ytlkjfjlmjgkheaa.H
open Go.RowKit Go.Proofs.YtlkjfjlmjgkheaaW.PrintWords Go.Proofs.YtlkjfjlmjgkheaaW.PrintLast Go.Proofs.YtlkjfjlmjgkheaaW.PrintMore
attribute [local go_sem] max2_int min2_int max_two min_two max_three min_three max_four min_four
set_option linter.unusedVariables false
set_option linter.unusedSimpArgs false
mutual
def dragomanlaw11_CondDenies.j0 : Nat → Bool → Int → List (S83) → List (S61) → List (S64) → Int → Int → Int → Int → List Int → List Int → Int → Int → Int → Int → Option (Bool)
 | 0, _, _, _, _, _, _, _, _, _, _, _, _, _, _, _ => none
 | k + 1, x22, x344000, x344001, x344002, x344003, x344004, x344005, x345000, x345001, x345002, x345003, x345004, x345005, x345006, x345007 => if x22 = true then (some true) else ((dragomanref11_Copy.f k x344000 x344001 x344002 x344003 x344004 x344005).bind fun bt348 => (dragomanlaw11_CondDenies.l0 k (bt348.2.2.1.length : Int) 0 x344000 x344001 x344002 x344003 x344004 x344005 x345000 x345001 x345002 x345003 x345004 x345005 x345006 x345007 bt348.1 bt348.2.1 bt348.2.2.1 bt348.2.2.2.1 bt348.2.2.2.2.1 bt348.2.2.2.2.2))
def dragomanlaw11_CondDenies.l0 : Nat → Int → Int → Int → List (S83) → List (S61) → List (S64) → Int → Int → Int → Int → List Int → List Int → Int → Int → Int → Int → Int → List (S83) → List (S61) → List (S64) → Int → Int → Option (Bool)
 | 0, _, _, _, _, _, _, _, _, _, _, _, _, _, _, _, _, _, _, _, _, _, _ => none
 | k + 1, x27, x28, x344000, x344001, x344002, x344003, x344004, x344005, x345000, x345001, x345002, x345003, x345004, x345005, x345006, x345007, x361000, x361001, x361002, x361003, x361004, x361005 => if x28 < x27 then (if 0 ≤ x28 then (if x28 < (x361002.length : Int) then (dragomanlaw11_CondDenies.l0 k x27 (wrap64 (x28 + 1)) x344000 x344001 x344002 x344003 x344004 x344005 x345000 x345001 x345002 x345003 x345004 x345005 x345006 x345007 x361000 x361001 (x361002.set (x28 : Int).toNat (⟨!((rd_T61 x361002 x28).f0), (⟨(rd_T61 x361002 x28).f1.f0, (rd_T61 x361002 x28).f1.f1, (rd_T61 x361002 x28).f1.f2⟩ : S25)⟩ : S61)) x361003 x361004 x361005) else (none)) else (none)) else (dragomanlaw11_CondDenies.l1 k (x361003.length : Int) 0 x344000 x344001 x344002 x344003 x344004 x344005 x345000 x345001 x345002 x345003 x345004 x345005 x345006 x345007 x361000 x361001 x361002 x361003 x361004 x361005)
def dragomanlaw11_CondDenies.l1 : Nat → Int → Int → Int → List (S83) → List (S61) → List (S64) → Int → Int → Int → Int → List Int → List Int → Int → Int → Int → Int → Int → List (S83) → List (S61) → List (S64) → Int → Int → Option (Bool)
 | 0, _, _, _, _, _, _, _, _, _, _, _, _, _, _, _, _, _, _, _, _, _, _ => none
 | k + 1, x46, x47, x344000, x344001, x344002, x344003, x344004, x344005, x345000, x345001, x345002, x345003, x345004, x345005, x345006, x345007, x361000, x361001, x361002, x361003, x361004, x361005 => if x47 < x46 then (if 0 ≤ x47 then (if x47 < (x361003.length : Int) then (dragomanlaw11_CondDenies.l1 k x46 (wrap64 (x47 + 1)) x344000 x344001 x344002 x344003 x344004 x344005 x345000 x345001 x345002 x345003 x345004 x345005 x345006 x345007 x361000 x361001 x361002 (x361003.set (x47 : Int).toNat (⟨!((rd_T64 x361003 x47).f0), (rd_T64 x361003 x47).f1⟩ : S64)) x361004 x361005) else (none)) else (none)) else (if x361002.length < 2199023255552 then (if x361003.length < 4398046511104 then ((cond_TakesPath.f k (x361002 ++ [(⟨false, (⟨4, ([] : List (S66)), (([(⟨1, (([(⟨0, 4294967295⟩ : S66)] : List (S66))), ([] : List (S25))⟩ : S25)] : List (S25)))⟩ : S25)⟩ : S61)]) x345002).bind fun t378 => ((cond_TakesPath.f k x344002 x345002).bind fun t379 => (if (t378 != t379) = true then ((cond_TakesComms.f (x361003 ++ [(⟨false, ([] : List (S76))⟩ : S64)]) x345003).bind fun t380 => ((cond_TakesComms.f x344003 x345003).bind fun t381 => (some (t380 != t381)))) else (none)))) else (none)) else (none))
end
def dragomanlaw11_CondDenies.f (k : Nat) (a0_0 : Int) (l0_1 : List (S83)) (l0_2 : List (S61)) (l0_3 : List (S64)) (a0_4 : Int) (a0_5 : Int) (a1_0 : Int) (a1_1 : Int) (l1_2 : List Int) (l1_3 : List Int) (a1_4 : Int) (a1_5 : Int) (a1_6 : Int) (a1_7 : Int) : Option (Bool) := (dragomanlaw11_alive.f k).bind fun t345 => (if t345 = true then ((dragomanref11_Great.f k a0_0 l0_1 l0_2 l0_3 a0_4 a0_5).bind fun t346 => (if t346 = true then (dragomanlaw11_CondDenies.j0 k true a0_0 l0_1 l0_2 l0_3 a0_4 a0_5 a1_0 a1_1 l1_2 l1_3 a1_4 a1_5 a1_6 a1_7) else ((r3_Great.f a1_0 a1_1 l1_2 l1_3 a1_4 a1_5 a1_6 a1_7).bind fun t347 => (if t347 = true then (dragomanlaw11_CondDenies.j0 k true a0_0 l0_1 l0_2 l0_3 a0_4 a0_5 a1_0 a1_1 l1_2 l1_3 a1_4 a1_5 a1_6 a1_7) else (dragomanlaw11_CondDenies.j0 k (decide ((l1_2.length : Int) > 255)) a0_0 l0_1 l0_2 l0_3 a0_4 a0_5 a1_0 a1_1 l1_2 l1_3 a1_4 a1_5 a1_6 a1_7))))) else (none))
def dragomanlaw11_CondDenies.T9 : Bool × List (List Nat × List Nat) := (true, [([], []), ([0], [0]), ([], []), ([], []), ([3], [3]), ([], []), ([4, 5], [4, 5]), ([6], [6]), ([7], [7]), ([8], [8]), ([1, 2, 0, 1, 2, 3, 4, 5, 6, 7, 8, 9], [1, 2]), ([10, 0, 1, 2, 3, 4, 5, 6, 7, 8, 9], [10]), ([11, 9, 0, 1, 2, 3, 4, 5, 6, 7, 8, 9], [9, 11])])
def dragomanlaw11_CondDenies.B9 : List Nat := [0, 1, 0, 0, 8, 0, 56, 120, 248, 504, 1023, 2047, 4095]
theorem dragomanlaw11_CondDenies.tab9 : rtab .any (opsOf Try.f10 9) = dragomanlaw11_CondDenies.T9 := by kernel_rfl
theorem dragomanlaw11_CondDenies.bits9 : waitsOk dragomanlaw11_CondDenies.T9.2 dragomanlaw11_CondDenies.B9 = true := by kernel_rfl
def dragomanlaw11_CondDenies.T14 : Bool × List (List Nat × List Nat) := (true, [([], []), ([0], [0]), ([], []), ([], []), ([3], [3]), ([], []), ([4, 5], [4, 5]), ([6], [6]), ([7], [7]), ([8], [8]), ([1, 2, 0, 1, 2, 3, 4, 5, 6, 7, 8, 9], [1, 2]), ([10, 0, 1, 2, 3, 4, 5, 6, 7, 8, 9], [10]), ([11, 9, 0, 1, 2, 3, 4, 5, 6, 7, 8, 9], [9, 11])])
def dragomanlaw11_CondDenies.B14 : List Nat := [0, 1, 0, 0, 8, 0, 56, 120, 248, 504, 1023, 2047, 4095]
theorem dragomanlaw11_CondDenies.tab14 : rtab .any (opsOf Try.f10 14) = dragomanlaw11_CondDenies.T14 := by kernel_rfl
theorem dragomanlaw11_CondDenies.bits14 : waitsOk dragomanlaw11_CondDenies.T14.2 dragomanlaw11_CondDenies.B14 = true := by kernel_rfl
def dragomanlaw11_CondDenies.T19 : Bool × List (List Nat × List Nat) := (true, [([], []), ([0], [0]), ([], []), ([2], [2]), ([1, 3], [1, 3]), ([], []), ([5], [5]), ([], []), ([7], [7]), ([6, 8, 4], [6, 8]), ([4, 9], [4, 9]), ([10, 9], [10]), ([11], [11]), ([12, 11], [11, 12]), ([11], [11]), ([14, 11], [11, 14]), ([13, 15, 11, 11], [11, 13, 15]), ([11], [11]), ([17, 11], [11, 17]), ([11], [11]), ([19, 11], [11, 19]), ([18, 20, 16, 11], [11, 18, 20]), ([16, 21, 11], [11, 16, 21]), ([11, 22], [11, 22]), ([23, 21, 0, 1, 2, 3, 4, 5, 6, 7, 8, 9, 10, 11, 12, 13, 14, 15, 16, 17, 18, 19, 20, 21, 22, 23], [23])])
def dragomanlaw11_CondDenies.B19 : List Nat := [0, 1, 0, 4, 15, 0, 32, 0, 128, 511, 1023, 2047, 4095, 8191, 4095, 20479, 65535, 4095, 135167, 4095, 528383, 2097151, 4194303, 8388607, 16777215]
theorem dragomanlaw11_CondDenies.tab19 : rtab .any (opsOf Try.f10 19) = dragomanlaw11_CondDenies.T19 := by kernel_rfl
theorem dragomanlaw11_CondDenies.bits19 : waitsOk dragomanlaw11_CondDenies.T19.2 dragomanlaw11_CondDenies.B19 = true := by kernel_rfl
set_option maxHeartbeats 8000000 in
set_option maxRecDepth 100000 in
theorem dragomanlaw11_CondDenies.calls (k : Nat) (a0_0 : Int) (A0_1 : Option Addr) (c0_1 : Nat) (l0_1 : List (S83)) (A0_2 : Option Addr) (c0_2 : Nat) (l0_2 : List (S61)) (A0_3 : Option Addr) (c0_3 : Nat) (l0_3 : List (S64)) (a0_4 : Int) (a0_5 : Int) (a1_0 : Int) (a1_1 : Int) (A1_2 : Option Addr) (c1_2 : Nat) (l1_2 : List Int) (A1_3 : Option Addr) (c1_3 : Nat) (l1_3 : List Int) (a1_4 : Int) (a1_5 : Int) (a1_6 : Int) (a1_7 : Int) (r : Bool) (w : World) (hr0_1 : Kd.C k83 w A0_1 l0_1.length l0_1) (hc0_1 : l0_1.length ≤ c0_1) (hr0_2 : Kd.C k61 w A0_2 l0_2.length l0_2) (hc0_2 : l0_2.length ≤ c0_2) (hr0_3 : Kd.C k64 w A0_3 l0_3.length l0_3) (hc0_3 : l0_3.length ≤ c0_3) (hr1_2 : Kd.C (Kd.int .u32) w A1_2 l1_2.length l1_2) (hc1_2 : l1_2.length ≤ c1_2) (hr1_3 : Kd.C (Kd.int .u32) w A1_3 l1_3.length l1_3) (hc1_3 : l1_3.length ≤ c1_3) (h : dragomanlaw11_CondDenies.f k a0_0 l0_1 l0_2 l0_3 a0_4 a0_5 a1_0 a1_1 l1_2 l1_3 a1_4 a1_5 a1_6 a1_7 = some r) :
 Calls Try.prog 10 #[.agg #[.int .i64 a0_0, .slice A0_1 l0_1.length c0_1, .slice A0_2 l0_2.length c0_2, .slice A0_3 l0_3.length c0_3, .int .u32 a0_4, .int .u32 a0_5], .agg #[.int .u32 a1_0, .int .i64 a1_1, .slice A1_2 l1_2.length c1_2, .slice A1_3 l1_3.length c1_3, .int .u32 a1_4, .int .u32 a1_5, .int .i64 a1_6, .int .u32 a1_7]] w fun e w' => e = .returned (.bool r) ∧ Below w.heap.size w w' := by
 have hu46 := Try.underlying46
 have hu50 := Try.underlying50
 have hu66 := Try.underlying66
 have hu25 := Try.underlying25
 have hu61 := Try.underlying61
 have hu64 := Try.underlying64
 have HR0_1 := aM hr0_1
 have HC0_1 := aM hc0_1
 clear hr0_1 hc0_1
 have HR0_2 := aM hr0_2
 have HC0_2 := aM hc0_2
 clear hr0_2 hc0_2
 have HR0_3 := aM hr0_3
 have HC0_3 := aM hc0_3
 clear hr0_3 hc0_3
 have HR1_2 := aM hr1_2
 have HC1_2 := aM hc1_2
 clear hr1_2 hc1_2
 have HR1_3 := aM hr1_3
 have HC1_3 := aM hc1_3
 clear hr1_3 hc1_3
 have HB := aM (Below.refl w.heap.size w)
 have H : ((dragomanlaw11_alive.f k).bind fun t345 => (if t345 = true then ((dragomanref11_Great.f k a0_0 l0_1 l0_2 l0_3 a0_4 a0_5).bind fun t346 => (if t346 = true then (dragomanlaw11_CondDenies.j0 k true a0_0 l0_1 l0_2 l0_3 a0_4 a0_5 a1_0 a1_1 l1_2 l1_3 a1_4 a1_5 a1_6 a1_7) else ((r3_Great.f a1_0 a1_1 l1_2 l1_3 a1_4 a1_5 a1_6 a1_7).bind fun t347 => (if t347 = true then (dragomanlaw11_CondDenies.j0 k true a0_0 l0_1 l0_2 l0_3 a0_4 a0_5 a1_0 a1_1 l1_2 l1_3 a1_4 a1_5 a1_6 a1_7) else (dragomanlaw11_CondDenies.j0 k (decide ((l1_2.length : Int) > 255)) a0_0 l0_1 l0_2 l0_3 a0_4 a0_5 a1_0 a1_1 l1_2 l1_3 a1_4 a1_5 a1_6 a1_7))))) else (none))) = some r := h
 clear h
 replace H := Option.bind_eq_some_iff.mp H
 obtain ⟨t345, A30, H⟩ := H
 replace H : (if t345 = true then ((dragomanref11_Great.f k a0_0 l0_1 l0_2 l0_3 a0_4 a0_5).bind fun t346 => (if t346 = true then (dragomanlaw11_CondDenies.j0 k true a0_0 l0_1 l0_2 l0_3 a0_4 a0_5 a1_0 a1_1 l1_2 l1_3 a1_4 a1_5 a1_6 a1_7) else ((r3_Great.f a1_0 a1_1 l1_2 l1_3 a1_4 a1_5 a1_6 a1_7).bind fun t347 => (if t347 = true then (dragomanlaw11_CondDenies.j0 k true a0_0 l0_1 l0_2 l0_3 a0_4 a0_5 a1_0 a1_1 l1_2 l1_3 a1_4 a1_5 a1_6 a1_7) else (dragomanlaw11_CondDenies.j0 k (decide ((l1_2.length : Int) > 255)) a0_0 l0_1 l0_2 l0_3 a0_4 a0_5 a1_0 a1_1 l1_2 l1_3 a1_4 a1_5 a1_6 a1_7))))) else (none)) = some r := H
 have A3 := aM A30
 clear A30
 by_cases c4 : t345 = true
 · subst c4
   have H1 : ((dragomanref11_Great.f k a0_0 l0_1 l0_2 l0_3 a0_4 a0_5).bind fun t346 => (if t346 = true then (dragomanlaw11_CondDenies.j0 k true a0_0 l0_1 l0_2 l0_3 a0_4 a0_5 a1_0 a1_1 l1_2 l1_3 a1_4 a1_5 a1_6 a1_7) else ((r3_Great.f a1_0 a1_1 l1_2 l1_3 a1_4 a1_5 a1_6 a1_7).bind fun t347 => (if t347 = true then (dragomanlaw11_CondDenies.j0 k true a0_0 l0_1 l0_2 l0_3 a0_4 a0_5 a1_0 a1_1 l1_2 l1_3 a1_4 a1_5 a1_6 a1_7) else (dragomanlaw11_CondDenies.j0 k (decide ((l1_2.length : Int) > 255)) a0_0 l0_1 l0_2 l0_3 a0_4 a0_5 a1_0 a1_1 l1_2 l1_3 a1_4 a1_5 a1_6 a1_7))))) = some r := by rw [if_pos rfl] at H; exact H
   clear H
   have H := H1
   clear H1
   have HC5 := aM H
   clear H
   go_enter Try.func10, Try.ntmps10
   go_upto_region 3 with (first | ((with_reducible refine gate_dst (N := 2) rfl ?_); (try (refine gate_guard (by rfl) ?_; dsimp only)); refine box_event ?hg (N := 2) ?hd (cs := #[.int .i64 a0_0, .slice A0_1 l0_1.length c0_1, .slice A0_2 l0_2.length c0_2, .slice A0_3 l0_3.length c0_3, .int .u32 a0_4, .int .u32 a0_5]) (t := 46) ?hr ?_; (case hd => rfl); (case hg => rfl); (case hr => first | (go_simp; done) | (go_simp; rfl)); intro gb343 hg w6 hbox hb; have n0_ := aM (below_step (by repeat (first | (with_reducible first | exact HB.out | apply blA | apply blN | apply blD) | exact HB.out)) hb); have n1_ := aM (hbox); have n2_ := aM ((by rw [hg]; exact (below_size (by repeat (first | (with_reducible first | exact HB.out | apply blA | apply blN | apply blD) | exact HB.out))) : w.heap.size ≤ gb343)); have n3_ := aM ((by rw [hg]; exact (below_size (by repeat (first | (with_reducible first | exact HB.out | apply blA | apply blN | apply blD) | exact HB.out))) : w.heap.size ≤ gb343)); clear HB; have HB := n0_; have BK343 := n1_; have GW343 := n2_; have GE343 := n3_; clear n0_ n1_ n2_ n3_; clear hb hbox hg) | ((with_reducible refine gate_dst (N := 3) rfl ?_); (try (refine gate_guard (by rfl) ?_; dsimp only)); refine box_event ?hg (N := 3) ?hd (cs := #[.int .u32 a1_0, .int .i64 a1_1, .slice A1_2 l1_2.length c1_2, .slice A1_3 l1_3.length c1_3, .int .u32 a1_4, .int .u32 a1_5, .int .i64 a1_6, .int .u32 a1_7]) (t := 50) ?hr ?_; (case hd => rfl); (case hg => rfl); (case hr => first | (go_simp; done) | (go_simp; rfl)); intro gb344 hg w7 hbox hb; have n0_ := aM (blk_below (g := gb343) (o := .cells #[.int .i64 a0_0, .slice A0_1 l0_1.length c0_1, .slice A0_2 l0_2.length c0_2, .slice A0_3 l0_3.length c0_3, .int .u32 a0_4, .int .u32 a0_5] 46 (0, 0)) (up_ BK343.out) hb); have n1_ := aM (below_step (by repeat (first | (with_reducible first | exact HB.out | apply blA | apply blN | apply blD | refine bS ?_ GE343.out) | exact HB.out)) hb); have n2_ := aM (hbox); have n3_ := aM ((by rw [hg]; exact (below_size (by repeat (first | (with_reducible first | exact HB.out | apply blA | apply blN | apply blD | refine bS ?_ GE343.out) | exact HB.out))) : w.heap.size ≤ gb344)); have n4_ := aM ((by rw [hg]; exact (below_size (by repeat (first | (with_reducible first | exact HB.out | apply blA | apply blN | apply blD | refine bS ?_ GE343.out) | exact HB.out))) : w.heap.size ≤ gb344)); have n5_ := aM ((by rw [hg]; exact Nat.ne_of_lt (blk_lt (g := gb343) (o := .cells #[.int .i64 a0_0, .slice A0_1 l0_1.length c0_1, .slice A0_2 l0_2.length c0_2, .slice A0_3 l0_3.length c0_3, .int .u32 a0_4, .int .u32 a0_5] 46 (0, 0)) (up_ BK343.out)) : gb343 ≠ gb344)); have n6_ := aM ((by rw [hg]; exact Nat.ne_of_gt (blk_lt (g := gb343) (o := .cells #[.int .i64 a0_0, .slice A0_1 l0_1.length c0_1, .slice A0_2 l0_2.length c0_2, .slice A0_3 l0_3.length c0_3, .int .u32 a0_4, .int .u32 a0_5] 46 (0, 0)) (up_ BK343.out)) : gb344 ≠ gb343)); clear BK343; clear HB; have BK343 := n0_; have HB := n1_; have BK344 := n2_; have GW344 := n3_; have GE344 := n4_; have NB343_344 := n5_; have NB344_343 := n6_; clear n0_ n1_ n2_ n3_ n4_ n5_ n6_; clear hb hbox hg) | ((with_reducible refine gate_callee (f := 27) rfl ?_); refine goesL_ (some 9) rfl rfl Try.func27 (by kernel_rfl) rfl #[] rfl (by (try simp only [List.map_toArray, List.map_cons, List.map_nil]); first | done | rfl | (simp only [List.length_drop, List.length_take]; rfl)) ?_; (with_reducible refine (dragomanlaw11_alive.calls k  true _ A3.out).mono ?_); rintro e w8 ⟨rfl, hb⟩; refine ⟨_, rfl, ?_⟩; have n0_ := aM (blk_below (g := gb343) (o := .cells #[.int .i64 a0_0, .slice A0_1 l0_1.length c0_1, .slice A0_2 l0_2.length c0_2, .slice A0_3 l0_3.length c0_3, .int .u32 a0_4, .int .u32 a0_5] 46 (0, 0)) (up_ BK343.out) hb); have n1_ := aM (blk_below (g := gb344) (o := .cells #[.int .u32 a1_0, .int .i64 a1_1, .slice A1_2 l1_2.length c1_2, .slice A1_3 l1_3.length c1_3, .int .u32 a1_4, .int .u32 a1_5, .int .i64 a1_6, .int .u32 a1_7] 50 (0, 0)) (up_ BK344.out) hb); have n2_ := aM (below_step (by repeat (first | (with_reducible first | exact HB.out | apply blA | apply blN | apply blD | refine bS ?_ GE343.out | refine bS ?_ GE344.out) | exact HB.out)) hb); clear BK343; clear BK344; clear HB; have BK343 := n0_; have BK344 := n1_; have HB := n2_; clear n0_ n1_ n2_; (try clear hb); (try clear hb2); (try clear hk); (try clear hi)))
   (try simp only [Act.put, sT, sZ, sS])
   go_cut [22] (fun v22 wc => ∃ (kq : Nat) (x22_4 : Bool), v22 = .bool x22_4 ∧ Aside0 (dragomanlaw11_CondDenies.j0 kq x22_4 a0_0 l0_1 l0_2 l0_3 a0_4 a0_5 a1_0 a1_1 l1_2 l1_3 a1_4 a1_5 a1_6 a1_7 = some r) ∧ Aside0 (kq ≤ k) ∧ Aside0 (wc.heap[gb343]? = some (.cells #[.int .i64 a0_0, (.slice A0_1 l0_1.length c0_1), (.slice A0_2 l0_2.length c0_2), (.slice A0_3 l0_3.length c0_3), .int .u32 a0_4, .int .u32 a0_5] 46 (0, 0))) ∧ Aside0 (wc.heap[gb344]? = some (.cells #[.int .u32 a1_0, .int .i64 a1_1, (.slice A1_2 l1_2.length c1_2), (.slice A1_3 l1_3.length c1_3), .int .u32 a1_4, .int .u32 a1_5, .int .i64 a1_6, .int .u32 a1_7] 50 (0, 0))) ∧ Aside0 (Below w.heap.size w wc))
   case first =>
    have H := HC5.out
    clear HC5
    replace H := Option.bind_eq_some_iff.mp H
    obtain ⟨t346, A90, H⟩ := H
    replace H : (if t346 = true then (dragomanlaw11_CondDenies.j0 k true a0_0 l0_1 l0_2 l0_3 a0_4 a0_5 a1_0 a1_1 l1_2 l1_3 a1_4 a1_5 a1_6 a1_7) else ((r3_Great.f a1_0 a1_1 l1_2 l1_3 a1_4 a1_5 a1_6 a1_7).bind fun t347 => (if t347 = true then (dragomanlaw11_CondDenies.j0 k true a0_0 l0_1 l0_2 l0_3 a0_4 a0_5 a1_0 a1_1 l1_2 l1_3 a1_4 a1_5 a1_6 a1_7) else (dragomanlaw11_CondDenies.j0 k (decide ((l1_2.length : Int) > 255)) a0_0 l0_1 l0_2 l0_3 a0_4 a0_5 a1_0 a1_1 l1_2 l1_3 a1_4 a1_5 a1_6 a1_7)))) = some r := H
    have A9 := aM A90
    clear A90
    by_cases c10 : t346 = true
    · subst c10
      have H1 : (dragomanlaw11_CondDenies.j0 k true a0_0 l0_1 l0_2 l0_3 a0_4 a0_5 a1_0 a1_1 l1_2 l1_3 a1_4 a1_5 a1_6 a1_7) = some r := by rw [if_pos rfl] at H; exact H
      clear H
      have H := H1
      clear H1
      have H' := aM H
      clear H
      have hnb11 := NB343_344.out
      have hnc11 := NB344_343.out
      have hcz12_0 : w8.cell? ⟨gb343, 0, none⟩ = some (.int .i64 a0_0) := (blk_cell BK343.out 0).trans rfl
      have hcz12_1 : w8.cell? ⟨gb343, 1, none⟩ = some (.slice A0_1 l0_1.length c0_1) := (blk_cell BK343.out 1).trans rfl
      have hcz12_2 : w8.cell? ⟨gb343, 2, none⟩ = some (.slice A0_2 l0_2.length c0_2) := (blk_cell BK343.out 2).trans rfl
      have hcz12_3 : w8.cell? ⟨gb343, 3, none⟩ = some (.slice A0_3 l0_3.length c0_3) := (blk_cell BK343.out 3).trans rfl
      have hcz12_4 : w8.cell? ⟨gb343, 4, none⟩ = some (.int .u32 a0_4) := (blk_cell BK343.out 4).trans rfl
      have hcz12_5 : w8.cell? ⟨gb343, 5, none⟩ = some (.int .u32 a0_5) := (blk_cell BK343.out 5).trans rfl
      have hfz12_0 := bF BK343.out 0
      have hfz12_1 := bF BK343.out 1
      have hfz12_2 := bF BK343.out 2
      have hfz12_3 := bF BK343.out 3
      have hfz12_4 := bF BK343.out 4
      have hfz12_5 := bF BK343.out 5
      go_wp2_with (first | ((with_reducible refine gate_callee (f := 28) rfl ?_); refine goesL_ (some 12) rfl rfl Try.func28 (by kernel_rfl) rfl #[.agg #[.int .i64 a0_0, .slice A0_1 l0_1.length c0_1, .slice A0_2 l0_2.length c0_2, .slice A0_3 l0_3.length c0_3, .int .u32 a0_4, .int .u32 a0_5]] rfl (by (try simp only [List.map_toArray, List.map_cons, List.map_nil]); first | done | rfl | (simp only [List.length_drop, List.length_take]; rfl)) ?_; (with_reducible refine (dragomanref11_Great.calls k a0_0 _ _ l0_1 _ _ l0_2 _ _ l0_3 a0_4 a0_5 true _ ?side1 ?side2 ?side3 ?side4 ?side5 ?side6 A9.out).mono ?_); (case side1 => repeat (first | exact (Kd.C_below HR0_1.out HB.out) | (with_reducible refine Kd.C_alloc ?_ _) | (with_reducible refine Kd.C_drewN ?_ _) | (with_reducible refine Kd.C_drew ?_))); (case side2 => exact HC0_1.out); (case side3 => repeat (first | exact (Kd.C_below HR0_2.out HB.out) | (with_reducible refine Kd.C_alloc ?_ _) | (with_reducible refine Kd.C_drewN ?_ _) | (with_reducible refine Kd.C_drew ?_))); (case side4 => exact HC0_2.out); (case side5 => repeat (first | exact (Kd.C_below HR0_3.out HB.out) | (with_reducible refine Kd.C_alloc ?_ _) | (with_reducible refine Kd.C_drewN ?_ _) | (with_reducible refine Kd.C_drew ?_))); (case side6 => exact HC0_3.out); rintro e w13 ⟨rfl, hb⟩; refine ⟨_, rfl, ?_⟩; have n0_ := aM (blk_below (g := gb343) (o := .cells #[.int .i64 a0_0, .slice A0_1 l0_1.length c0_1, .slice A0_2 l0_2.length c0_2, .slice A0_3 l0_3.length c0_3, .int .u32 a0_4, .int .u32 a0_5] 46 (0, 0)) (up_ BK343.out) hb); have n1_ := aM (blk_below (g := gb344) (o := .cells #[.int .u32 a1_0, .int .i64 a1_1, .slice A1_2 l1_2.length c1_2, .slice A1_3 l1_3.length c1_3, .int .u32 a1_4, .int .u32 a1_5, .int .i64 a1_6, .int .u32 a1_7] 50 (0, 0)) (up_ BK344.out) hb); have n2_ := aM (below_step (by repeat (first | (with_reducible first | exact HB.out | apply blA | apply blN | apply blD | refine bS ?_ GE343.out | refine bS ?_ GE344.out) | exact HB.out)) hb); clear BK343; clear BK344; clear HB; have BK343 := n0_; have BK344 := n1_; have HB := n2_; clear n0_ n1_ n2_; (try clear hb); (try clear hb2); (try clear hk); (try clear hi)))
      go_meet
      case rel => exact ⟨_, (true), (by first | rfl | (simp; done) | (simp [*]; done)), H', ⟨by first | omega | exact Nat.le_refl _⟩, ⟨by (with_reducible repeat (first | apply bkN | apply bkD | apply bkA)); exact BK343.out⟩, ⟨by (with_reducible repeat (first | apply bkN | apply bkD | apply bkA)); exact BK344.out⟩, ⟨by repeat (first | (with_reducible first | exact HB.out | apply blA | apply blN | apply blD | refine bS ?_ GE343.out | refine bS ?_ GE344.out) | exact HB.out)⟩⟩
    · replace c10 := Bool.eq_false_iff.mpr c10
      subst c10
      have H1 : ((r3_Great.f a1_0 a1_1 l1_2 l1_3 a1_4 a1_5 a1_6 a1_7).bind fun t347 => (if t347 = true then (dragomanlaw11_CondDenies.j0 k true a0_0 l0_1 l0_2 l0_3 a0_4 a0_5 a1_0 a1_1 l1_2 l1_3 a1_4 a1_5 a1_6 a1_7) else (dragomanlaw11_CondDenies.j0 k (decide ((l1_2.length : Int) > 255)) a0_0 l0_1 l0_2 l0_3 a0_4 a0_5 a1_0 a1_1 l1_2 l1_3 a1_4 a1_5 a1_6 a1_7))) = some r := by rw [if_neg (show ¬ (false = true) by decide)] at H; exact H
      clear H
      have H := H1
      clear H1
      replace H := Option.bind_eq_some_iff.mp H
      obtain ⟨t347, A140, H⟩ := H
      replace H : (if t347 = true then (dragomanlaw11_CondDenies.j0 k true a0_0 l0_1 l0_2 l0_3 a0_4 a0_5 a1_0 a1_1 l1_2 l1_3 a1_4 a1_5 a1_6 a1_7) else (dragomanlaw11_CondDenies.j0 k (decide ((l1_2.length : Int) > 255)) a0_0 l0_1 l0_2 l0_3 a0_4 a0_5 a1_0 a1_1 l1_2 l1_3 a1_4 a1_5 a1_6 a1_7)) = some r := H
      have A14 := aM A140
      clear A140
      by_cases c15 : t347 = true
      · subst c15
        have H1 : (dragomanlaw11_CondDenies.j0 k true a0_0 l0_1 l0_2 l0_3 a0_4 a0_5 a1_0 a1_1 l1_2 l1_3 a1_4 a1_5 a1_6 a1_7) = some r := by rw [if_pos rfl] at H; exact H
        clear H
        have H := H1
        clear H1
        have H' := aM H
        clear H
        have hnb16 := NB343_344.out
        have hnc16 := NB344_343.out
        have hcz17_0 : w8.cell? ⟨gb343, 0, none⟩ = some (.int .i64 a0_0) := (blk_cell BK343.out 0).trans rfl
        have hcz17_1 : w8.cell? ⟨gb343, 1, none⟩ = some (.slice A0_1 l0_1.length c0_1) := (blk_cell BK343.out 1).trans rfl
        have hcz17_2 : w8.cell? ⟨gb343, 2, none⟩ = some (.slice A0_2 l0_2.length c0_2) := (blk_cell BK343.out 2).trans rfl
        have hcz17_3 : w8.cell? ⟨gb343, 3, none⟩ = some (.slice A0_3 l0_3.length c0_3) := (blk_cell BK343.out 3).trans rfl
        have hcz17_4 : w8.cell? ⟨gb343, 4, none⟩ = some (.int .u32 a0_4) := (blk_cell BK343.out 4).trans rfl
        have hcz17_5 : w8.cell? ⟨gb343, 5, none⟩ = some (.int .u32 a0_5) := (blk_cell BK343.out 5).trans rfl
        have hfz17_0 := bF BK343.out 0
        have hfz17_1 := bF BK343.out 1
        have hfz17_2 := bF BK343.out 2
        have hfz17_3 := bF BK343.out 3
        have hfz17_4 := bF BK343.out 4
        have hfz17_5 := bF BK343.out 5
        go_wp2_with (first | ((with_reducible refine gate_callee (f := 28) rfl ?_); refine goesL_ (some 12) rfl rfl Try.func28 (by kernel_rfl) rfl #[.agg #[.int .i64 a0_0, .slice A0_1 l0_1.length c0_1, .slice A0_2 l0_2.length c0_2, .slice A0_3 l0_3.length c0_3, .int .u32 a0_4, .int .u32 a0_5]] rfl (by (try simp only [List.map_toArray, List.map_cons, List.map_nil]); first | done | rfl | (simp only [List.length_drop, List.length_take]; rfl)) ?_; (with_reducible refine (dragomanref11_Great.calls k a0_0 _ _ l0_1 _ _ l0_2 _ _ l0_3 a0_4 a0_5 false _ ?side1 ?side2 ?side3 ?side4 ?side5 ?side6 A9.out).mono ?_); (case side1 => repeat (first | exact (Kd.C_below HR0_1.out HB.out) | (with_reducible refine Kd.C_alloc ?_ _) | (with_reducible refine Kd.C_drewN ?_ _) | (with_reducible refine Kd.C_drew ?_))); (case side2 => exact HC0_1.out); (case side3 => repeat (first | exact (Kd.C_below HR0_2.out HB.out) | (with_reducible refine Kd.C_alloc ?_ _) | (with_reducible refine Kd.C_drewN ?_ _) | (with_reducible refine Kd.C_drew ?_))); (case side4 => exact HC0_2.out); (case side5 => repeat (first | exact (Kd.C_below HR0_3.out HB.out) | (with_reducible refine Kd.C_alloc ?_ _) | (with_reducible refine Kd.C_drewN ?_ _) | (with_reducible refine Kd.C_drew ?_))); (case side6 => exact HC0_3.out); rintro e w18 ⟨rfl, hb⟩; refine ⟨_, rfl, ?_⟩; have n0_ := aM (blk_below (g := gb343) (o := .cells #[.int .i64 a0_0, .slice A0_1 l0_1.length c0_1, .slice A0_2 l0_2.length c0_2, .slice A0_3 l0_3.length c0_3, .int .u32 a0_4, .int .u32 a0_5] 46 (0, 0)) (up_ BK343.out) hb); have n1_ := aM (blk_below (g := gb344) (o := .cells #[.int .u32 a1_0, .int .i64 a1_1, .slice A1_2 l1_2.length c1_2, .slice A1_3 l1_3.length c1_3, .int .u32 a1_4, .int .u32 a1_5, .int .i64 a1_6, .int .u32 a1_7] 50 (0, 0)) (up_ BK344.out) hb); have n2_ := aM (below_step (by repeat (first | (with_reducible first | exact HB.out | apply blA | apply blN | apply blD | refine bS ?_ GE343.out | refine bS ?_ GE344.out) | exact HB.out)) hb); clear BK343; clear BK344; clear HB; have BK343 := n0_; have BK344 := n1_; have HB := n2_; clear n0_ n1_ n2_; (try clear hb); (try clear hb2); (try clear hk); (try clear hi); have hcz19_0 : w18.cell? ⟨gb344, 0, none⟩ = some (.int .u32 a1_0) := (blk_cell BK344.out 0).trans rfl; have hcz19_1 : w18.cell? ⟨gb344, 1, none⟩ = some (.int .i64 a1_1) := (blk_cell BK344.out 1).trans rfl; have hcz19_2 : w18.cell? ⟨gb344, 2, none⟩ = some (.slice A1_2 l1_2.length c1_2) := (blk_cell BK344.out 2).trans rfl; have hcz19_3 : w18.cell? ⟨gb344, 3, none⟩ = some (.slice A1_3 l1_3.length c1_3) := (blk_cell BK344.out 3).trans rfl; have hcz19_4 : w18.cell? ⟨gb344, 4, none⟩ = some (.int .u32 a1_4) := (blk_cell BK344.out 4).trans rfl; have hcz19_5 : w18.cell? ⟨gb344, 5, none⟩ = some (.int .u32 a1_5) := (blk_cell BK344.out 5).trans rfl; have hcz19_6 : w18.cell? ⟨gb344, 6, none⟩ = some (.int .i64 a1_6) := (blk_cell BK344.out 6).trans rfl; have hcz19_7 : w18.cell? ⟨gb344, 7, none⟩ = some (.int .u32 a1_7) := (blk_cell BK344.out 7).trans rfl; have hfz19_0 := bF BK344.out 0; have hfz19_1 := bF BK344.out 1; have hfz19_2 := bF BK344.out 2; have hfz19_3 := bF BK344.out 3; have hfz19_4 := bF BK344.out 4; have hfz19_5 := bF BK344.out 5; have hfz19_6 := bF BK344.out 6; have hfz19_7 := bF BK344.out 7) | (go_at_call 29; (with_reducible refine (r3_Great.calls a1_0 a1_1 _ _ l1_2 _ _ l1_3 a1_4 a1_5 a1_6 a1_7 true _ ?side1 ?side2 ?side3 ?side4 A14.out).mono ?_); (case side1 => repeat (first | exact (Kd.C_below HR1_2.out HB.out) | (with_reducible refine Kd.C_alloc ?_ _) | (with_reducible refine Kd.C_drewN ?_ _) | (with_reducible refine Kd.C_drew ?_))); (case side2 => exact HC1_2.out); (case side3 => repeat (first | exact (Kd.C_below HR1_3.out HB.out) | (with_reducible refine Kd.C_alloc ?_ _) | (with_reducible refine Kd.C_drewN ?_ _) | (with_reducible refine Kd.C_drew ?_))); (case side4 => exact HC1_3.out); rintro e w20 ⟨rfl, hb⟩; have n0_ := aM (blk_below (g := gb343) (o := .cells #[.int .i64 a0_0, .slice A0_1 l0_1.length c0_1, .slice A0_2 l0_2.length c0_2, .slice A0_3 l0_3.length c0_3, .int .u32 a0_4, .int .u32 a0_5] 46 (0, 0)) (up_ BK343.out) hb); have n1_ := aM (blk_below (g := gb344) (o := .cells #[.int .u32 a1_0, .int .i64 a1_1, .slice A1_2 l1_2.length c1_2, .slice A1_3 l1_3.length c1_3, .int .u32 a1_4, .int .u32 a1_5, .int .i64 a1_6, .int .u32 a1_7] 50 (0, 0)) (up_ BK344.out) hb); have n2_ := aM (below_step (by repeat (first | (with_reducible first | exact HB.out | apply blA | apply blN | apply blD | refine bS ?_ GE343.out | refine bS ?_ GE344.out) | exact HB.out)) hb); clear BK343; clear BK344; clear HB; have BK343 := n0_; have BK344 := n1_; have HB := n2_; clear n0_ n1_ n2_; (try clear hb); (try clear hb2); (try clear hk); (try clear hi)))
        go_meet
        case rel => exact ⟨_, (true), (by first | rfl | (simp; done) | (simp [*]; done)), H', ⟨by first | omega | exact Nat.le_refl _⟩, ⟨by (with_reducible repeat (first | apply bkN | apply bkD | apply bkA)); exact BK343.out⟩, ⟨by (with_reducible repeat (first | apply bkN | apply bkD | apply bkA)); exact BK344.out⟩, ⟨by repeat (first | (with_reducible first | exact HB.out | apply blA | apply blN | apply blD | refine bS ?_ GE343.out | refine bS ?_ GE344.out) | exact HB.out)⟩⟩
      · replace c15 := Bool.eq_false_iff.mpr c15
        subst c15
        have H1 : (dragomanlaw11_CondDenies.j0 k (decide ((l1_2.length : Int) > 255)) a0_0 l0_1 l0_2 l0_3 a0_4 a0_5 a1_0 a1_1 l1_2 l1_3 a1_4 a1_5 a1_6 a1_7) = some r := by rw [if_neg (show ¬ (false = true) by decide)] at H; exact H
        clear H
        have H := H1
        clear H1
        have H' := aM H
        clear H
        have hnb21 := NB343_344.out
        have hnc21 := NB344_343.out
        have hcz22_0 : w8.cell? ⟨gb343, 0, none⟩ = some (.int .i64 a0_0) := (blk_cell BK343.out 0).trans rfl
        have hcz22_1 : w8.cell? ⟨gb343, 1, none⟩ = some (.slice A0_1 l0_1.length c0_1) := (blk_cell BK343.out 1).trans rfl
        have hcz22_2 : w8.cell? ⟨gb343, 2, none⟩ = some (.slice A0_2 l0_2.length c0_2) := (blk_cell BK343.out 2).trans rfl
        have hcz22_3 : w8.cell? ⟨gb343, 3, none⟩ = some (.slice A0_3 l0_3.length c0_3) := (blk_cell BK343.out 3).trans rfl
        have hcz22_4 : w8.cell? ⟨gb343, 4, none⟩ = some (.int .u32 a0_4) := (blk_cell BK343.out 4).trans rfl
        have hcz22_5 : w8.cell? ⟨gb343, 5, none⟩ = some (.int .u32 a0_5) := (blk_cell BK343.out 5).trans rfl
        have hfz22_0 := bF BK343.out 0
        have hfz22_1 := bF BK343.out 1
        have hfz22_2 := bF BK343.out 2
        have hfz22_3 := bF BK343.out 3
        have hfz22_4 := bF BK343.out 4
        have hfz22_5 := bF BK343.out 5
        go_wp2_with (first | ((with_reducible refine gate_callee (f := 28) rfl ?_); refine goesL_ (some 12) rfl rfl Try.func28 (by kernel_rfl) rfl #[.agg #[.int .i64 a0_0, .slice A0_1 l0_1.length c0_1, .slice A0_2 l0_2.length c0_2, .slice A0_3 l0_3.length c0_3, .int .u32 a0_4, .int .u32 a0_5]] rfl (by (try simp only [List.map_toArray, List.map_cons, List.map_nil]); first | done | rfl | (simp only [List.length_drop, List.length_take]; rfl)) ?_; (with_reducible refine (dragomanref11_Great.calls k a0_0 _ _ l0_1 _ _ l0_2 _ _ l0_3 a0_4 a0_5 false _ ?side1 ?side2 ?side3 ?side4 ?side5 ?side6 A9.out).mono ?_); (case side1 => repeat (first | exact (Kd.C_below HR0_1.out HB.out) | (with_reducible refine Kd.C_alloc ?_ _) | (with_reducible refine Kd.C_drewN ?_ _) | (with_reducible refine Kd.C_drew ?_))); (case side2 => exact HC0_1.out); (case side3 => repeat (first | exact (Kd.C_below HR0_2.out HB.out) | (with_reducible refine Kd.C_alloc ?_ _) | (with_reducible refine Kd.C_drewN ?_ _) | (with_reducible refine Kd.C_drew ?_))); (case side4 => exact HC0_2.out); (case side5 => repeat (first | exact (Kd.C_below HR0_3.out HB.out) | (with_reducible refine Kd.C_alloc ?_ _) | (with_reducible refine Kd.C_drewN ?_ _) | (with_reducible refine Kd.C_drew ?_))); (case side6 => exact HC0_3.out); rintro e w23 ⟨rfl, hb⟩; refine ⟨_, rfl, ?_⟩; have n0_ := aM (blk_below (g := gb343) (o := .cells #[.int .i64 a0_0, .slice A0_1 l0_1.length c0_1, .slice A0_2 l0_2.length c0_2, .slice A0_3 l0_3.length c0_3, .int .u32 a0_4, .int .u32 a0_5] 46 (0, 0)) (up_ BK343.out) hb); have n1_ := aM (blk_below (g := gb344) (o := .cells #[.int .u32 a1_0, .int .i64 a1_1, .slice A1_2 l1_2.length c1_2, .slice A1_3 l1_3.length c1_3, .int .u32 a1_4, .int .u32 a1_5, .int .i64 a1_6, .int .u32 a1_7] 50 (0, 0)) (up_ BK344.out) hb); have n2_ := aM (below_step (by repeat (first | (with_reducible first | exact HB.out | apply blA | apply blN | apply blD | refine bS ?_ GE343.out | refine bS ?_ GE344.out) | exact HB.out)) hb); clear BK343; clear BK344; clear HB; have BK343 := n0_; have BK344 := n1_; have HB := n2_; clear n0_ n1_ n2_; (try clear hb); (try clear hb2); (try clear hk); (try clear hi); have hcz24_0 : w23.cell? ⟨gb344, 0, none⟩ = some (.int .u32 a1_0) := (blk_cell BK344.out 0).trans rfl; have hcz24_1 : w23.cell? ⟨gb344, 1, none⟩ = some (.int .i64 a1_1) := (blk_cell BK344.out 1).trans rfl; have hcz24_2 : w23.cell? ⟨gb344, 2, none⟩ = some (.slice A1_2 l1_2.length c1_2) := (blk_cell BK344.out 2).trans rfl; have hcz24_3 : w23.cell? ⟨gb344, 3, none⟩ = some (.slice A1_3 l1_3.length c1_3) := (blk_cell BK344.out 3).trans rfl; have hcz24_4 : w23.cell? ⟨gb344, 4, none⟩ = some (.int .u32 a1_4) := (blk_cell BK344.out 4).trans rfl; have hcz24_5 : w23.cell? ⟨gb344, 5, none⟩ = some (.int .u32 a1_5) := (blk_cell BK344.out 5).trans rfl; have hcz24_6 : w23.cell? ⟨gb344, 6, none⟩ = some (.int .i64 a1_6) := (blk_cell BK344.out 6).trans rfl; have hcz24_7 : w23.cell? ⟨gb344, 7, none⟩ = some (.int .u32 a1_7) := (blk_cell BK344.out 7).trans rfl; have hfz24_0 := bF BK344.out 0; have hfz24_1 := bF BK344.out 1; have hfz24_2 := bF BK344.out 2; have hfz24_3 := bF BK344.out 3; have hfz24_4 := bF BK344.out 4; have hfz24_5 := bF BK344.out 5; have hfz24_6 := bF BK344.out 6; have hfz24_7 := bF BK344.out 7) | (go_at_call 29; (with_reducible refine (r3_Great.calls a1_0 a1_1 _ _ l1_2 _ _ l1_3 a1_4 a1_5 a1_6 a1_7 false _ ?side1 ?side2 ?side3 ?side4 A14.out).mono ?_); (case side1 => repeat (first | exact (Kd.C_below HR1_2.out HB.out) | (with_reducible refine Kd.C_alloc ?_ _) | (with_reducible refine Kd.C_drewN ?_ _) | (with_reducible refine Kd.C_drew ?_))); (case side2 => exact HC1_2.out); (case side3 => repeat (first | exact (Kd.C_below HR1_3.out HB.out) | (with_reducible refine Kd.C_alloc ?_ _) | (with_reducible refine Kd.C_drewN ?_ _) | (with_reducible refine Kd.C_drew ?_))); (case side4 => exact HC1_3.out); rintro e w25 ⟨rfl, hb⟩; have n0_ := aM (blk_below (g := gb343) (o := .cells #[.int .i64 a0_0, .slice A0_1 l0_1.length c0_1, .slice A0_2 l0_2.length c0_2, .slice A0_3 l0_3.length c0_3, .int .u32 a0_4, .int .u32 a0_5] 46 (0, 0)) (up_ BK343.out) hb); have n1_ := aM (blk_below (g := gb344) (o := .cells #[.int .u32 a1_0, .int .i64 a1_1, .slice A1_2 l1_2.length c1_2, .slice A1_3 l1_3.length c1_3, .int .u32 a1_4, .int .u32 a1_5, .int .i64 a1_6, .int .u32 a1_7] 50 (0, 0)) (up_ BK344.out) hb); have n2_ := aM (below_step (by repeat (first | (with_reducible first | exact HB.out | apply blA | apply blN | apply blD | refine bS ?_ GE343.out | refine bS ?_ GE344.out) | exact HB.out)) hb); clear BK343; clear BK344; clear HB; have BK343 := n0_; have BK344 := n1_; have HB := n2_; clear n0_ n1_ n2_; (try clear hb); (try clear hb2); (try clear hk); (try clear hi); have hcz26_0 : w25.cell? ⟨gb344, 0, none⟩ = some (.int .u32 a1_0) := (blk_cell BK344.out 0).trans rfl; have hcz26_1 : w25.cell? ⟨gb344, 1, none⟩ = some (.int .i64 a1_1) := (blk_cell BK344.out 1).trans rfl; have hcz26_2 : w25.cell? ⟨gb344, 2, none⟩ = some (.slice A1_2 l1_2.length c1_2) := (blk_cell BK344.out 2).trans rfl; have hcz26_3 : w25.cell? ⟨gb344, 3, none⟩ = some (.slice A1_3 l1_3.length c1_3) := (blk_cell BK344.out 3).trans rfl; have hcz26_4 : w25.cell? ⟨gb344, 4, none⟩ = some (.int .u32 a1_4) := (blk_cell BK344.out 4).trans rfl; have hcz26_5 : w25.cell? ⟨gb344, 5, none⟩ = some (.int .u32 a1_5) := (blk_cell BK344.out 5).trans rfl; have hcz26_6 : w25.cell? ⟨gb344, 6, none⟩ = some (.int .i64 a1_6) := (blk_cell BK344.out 6).trans rfl; have hcz26_7 : w25.cell? ⟨gb344, 7, none⟩ = some (.int .u32 a1_7) := (blk_cell BK344.out 7).trans rfl; have hfz26_0 := bF BK344.out 0; have hfz26_1 := bF BK344.out 1; have hfz26_2 := bF BK344.out 2; have hfz26_3 := bF BK344.out 3; have hfz26_4 := bF BK344.out 4; have hfz26_5 := bF BK344.out 5; have hfz26_6 := bF BK344.out 6; have hfz26_7 := bF BK344.out 7))
        go_meet
        case rel => exact ⟨_, (decide ((l1_2.length : Int) > 255)), (by first | rfl | (simp; done) | (simp [*]; done)), H', ⟨by first | omega | exact Nat.le_refl _⟩, ⟨by (with_reducible repeat (first | apply bkN | apply bkD | apply bkA)); exact BK343.out⟩, ⟨by (with_reducible repeat (first | apply bkN | apply bkD | apply bkA)); exact BK344.out⟩, ⟨by repeat (first | (with_reducible first | exact HB.out | apply blA | apply blN | apply blD | refine bS ?_ GE343.out | refine bS ?_ GE344.out) | exact HB.out)⟩⟩
   case rest =>
    clear HC5
    obtain ⟨kq, x22_4, rfl, HA, HJ4, BK343, BK344, HB⟩ := hcut
    cases kq with
    | zero => exact absurd HA.out (by simp [dragomanlaw11_CondDenies.j0])
    | succ kj4 =>
     have H := HA.out
     clear HA
     simp only [dragomanlaw11_CondDenies.j0] at H
     by_cases c27 : x22_4 = true
     · subst c27
       have H1 : (some true) = some r := by rw [if_pos rfl] at H; exact H
       clear H
       have H := H1
       clear H1
       obtain rfl := Option.some.inj H
       go_wp2
       first | go_ret | refine ⟨_, results_tmp rfl _ _ _, ?_⟩
       exact ⟨by first | rfl | (simp [errW_none, errW_some] <;> rfl) | (simp [*, errW_none, errW_some] <;> rfl), by repeat (first | (with_reducible first | exact HB.out | apply blA | apply blN | apply blD | refine bS ?_ GE343.out | refine bS ?_ GE344.out) | exact HB.out)⟩
     · replace c27 := Bool.eq_false_iff.mpr c27
       subst c27
       have H1 : ((dragomanref11_Copy.f kj4 a0_0 l0_1 l0_2 l0_3 a0_4 a0_5).bind fun bt348 => (dragomanlaw11_CondDenies.l0 kj4 (bt348.2.2.1.length : Int) 0 a0_0 l0_1 l0_2 l0_3 a0_4 a0_5 a1_0 a1_1 l1_2 l1_3 a1_4 a1_5 a1_6 a1_7 bt348.1 bt348.2.1 bt348.2.2.1 bt348.2.2.2.1 bt348.2.2.2.2.1 bt348.2.2.2.2.2)) = some r := by rw [if_neg (show ¬ (false = true) by decide)] at H; exact H
       clear H
       have H := H1
       clear H1
       replace H := Option.bind_eq_some_iff.mp H
       obtain ⟨⟨t348, t349, t352, t355, t358, t359⟩, A280, H⟩ := H
       replace H : (dragomanlaw11_CondDenies.l0 kj4 (t352.length : Int) 0 a0_0 l0_1 l0_2 l0_3 a0_4 a0_5 a1_0 a1_1 l1_2 l1_3 a1_4 a1_5 a1_6 a1_7 t348 t349 t352 t355 t358 t359) = some r := H
       have A28 := aM A280
       clear A280
       have H' := aM H
       clear H
       have hnb29 := NB343_344.out
       have hnc29 := NB344_343.out
       have hcz30_0 : wc.cell? ⟨gb343, 0, none⟩ = some (.int .i64 a0_0) := (blk_cell BK343.out 0).trans rfl
       have hcz30_1 : wc.cell? ⟨gb343, 1, none⟩ = some (.slice A0_1 l0_1.length c0_1) := (blk_cell BK343.out 1).trans rfl
       have hcz30_2 : wc.cell? ⟨gb343, 2, none⟩ = some (.slice A0_2 l0_2.length c0_2) := (blk_cell BK343.out 2).trans rfl
       have hcz30_3 : wc.cell? ⟨gb343, 3, none⟩ = some (.slice A0_3 l0_3.length c0_3) := (blk_cell BK343.out 3).trans rfl
       have hcz30_4 : wc.cell? ⟨gb343, 4, none⟩ = some (.int .u32 a0_4) := (blk_cell BK343.out 4).trans rfl
       have hcz30_5 : wc.cell? ⟨gb343, 5, none⟩ = some (.int .u32 a0_5) := (blk_cell BK343.out 5).trans rfl
       have hfz30_0 := bF BK343.out 0
       have hfz30_1 := bF BK343.out 1
       have hfz30_2 := bF BK343.out 2
       have hfz30_3 := bF BK343.out 3
       have hfz30_4 := bF BK343.out 4
       have hfz30_5 := bF BK343.out 5
       go_wp2_with (first | ((with_reducible refine gate_callee (f := 30) rfl ?_); refine goesL_ (some 24) rfl rfl Try.func30 (by kernel_rfl) rfl #[.agg #[.int .i64 a0_0, .slice A0_1 l0_1.length c0_1, .slice A0_2 l0_2.length c0_2, .slice A0_3 l0_3.length c0_3, .int .u32 a0_4, .int .u32 a0_5]] rfl (by (try simp only [List.map_toArray, List.map_cons, List.map_nil]); first | done | rfl | (simp only [List.length_drop, List.length_take]; rfl)) ?_; (with_reducible refine (dragomanref11_Copy.calls kj4 a0_0 _ _ l0_1 _ _ l0_2 _ _ l0_3 a0_4 a0_5 t348 t349 t352 t355 t358 t359 _ ?side1 ?side2 ?side3 ?side4 ?side5 ?side6 A28.out).mono ?_); (case side1 => repeat (first | exact (Kd.C_below HR0_1.out HB.out) | (with_reducible refine Kd.C_alloc ?_ _) | (with_reducible refine Kd.C_drewN ?_ _) | (with_reducible refine Kd.C_drew ?_))); (case side2 => exact HC0_1.out); (case side3 => repeat (first | exact (Kd.C_below HR0_2.out HB.out) | (with_reducible refine Kd.C_alloc ?_ _) | (with_reducible refine Kd.C_drewN ?_ _) | (with_reducible refine Kd.C_drew ?_))); (case side4 => exact HC0_2.out); (case side5 => repeat (first | exact (Kd.C_below HR0_3.out HB.out) | (with_reducible refine Kd.C_alloc ?_ _) | (with_reducible refine Kd.C_drewN ?_ _) | (with_reducible refine Kd.C_drew ?_))); (case side6 => exact HC0_3.out); rintro e w31 ⟨v350, v353, v356, rfl, ho0, ho1, ho2, hb⟩; refine ⟨_, rfl, ?_⟩; have n0_ := aM (Kd.R_lower ho0 (below_size (by repeat (first | (with_reducible first | exact HB.out | apply blA | apply blN | apply blD | refine bS ?_ GE343.out | refine bS ?_ GE344.out) | exact HB.out)))); have n1_ := aM (Kd.N_lower (Kd.N_mono (ok' := fun k_ => some k_ ≠ (v350 : Value).ownBlock ∧ some k_ ≠ (v356 : Value).ownBlock ∧ k_ ≠ gb343 ∧ k_ ≠ gb344) (Kd.R_N (Kd.R_bound (Kd.R_apart' (Kd.R_apart' ho1 (Kd.R_typed ho0) (by decide)) (Kd.S_typed ho2) (by decide)))) (fun k_ hk_ => ⟨hk_.1.1.2, hk_.1.2, (Kd.freshB (g := gb343) (o := .cells #[.int .i64 a0_0, .slice A0_1 l0_1.length c0_1, .slice A0_2 l0_2.length c0_2, .slice A0_3 l0_3.length c0_3, .int .u32 a0_4, .int .u32 a0_5] 46 (0, 0)) (up_ BK343.out) k_ hk_.2.1), (Kd.freshB (g := gb344) (o := .cells #[.int .u32 a1_0, .int .i64 a1_1, .slice A1_2 l1_2.length c1_2, .slice A1_3 l1_3.length c1_3, .int .u32 a1_4, .int .u32 a1_5, .int .i64 a1_6, .int .u32 a1_7] 50 (0, 0)) (up_ BK344.out) k_ hk_.2.1)⟩)) (below_size (by repeat (first | (with_reducible first | exact HB.out | apply blA | apply blN | apply blD | refine bS ?_ GE343.out | refine bS ?_ GE344.out) | exact HB.out)))); have n2_ := aM (Kd.N_lower (Kd.N_mono (ok' := fun k_ => some k_ ≠ (v350 : Value).ownBlock ∧ some k_ ≠ (v353 : Value).ownBlock ∧ k_ ≠ gb343 ∧ k_ ≠ gb344) (Kd.S_N (Kd.S_bound (Kd.S_apart' (Kd.S_apart' ho2 (Kd.R_typed ho0) (by decide)) (Kd.R_typed ho1) (by decide)))) (fun k_ hk_ => ⟨hk_.1.1.2, hk_.1.2, (Kd.freshB (g := gb343) (o := .cells #[.int .i64 a0_0, .slice A0_1 l0_1.length c0_1, .slice A0_2 l0_2.length c0_2, .slice A0_3 l0_3.length c0_3, .int .u32 a0_4, .int .u32 a0_5] 46 (0, 0)) (up_ BK343.out) k_ hk_.2.1), (Kd.freshB (g := gb344) (o := .cells #[.int .u32 a1_0, .int .i64 a1_1, .slice A1_2 l1_2.length c1_2, .slice A1_3 l1_3.length c1_3, .int .u32 a1_4, .int .u32 a1_5, .int .i64 a1_6, .int .u32 a1_7] 50 (0, 0)) (up_ BK344.out) k_ hk_.2.1)⟩)) (below_size (by repeat (first | (with_reducible first | exact HB.out | apply blA | apply blN | apply blD | refine bS ?_ GE343.out | refine bS ?_ GE344.out) | exact HB.out)))); have n3_ := aM (blk_below (g := gb343) (o := .cells #[.int .i64 a0_0, .slice A0_1 l0_1.length c0_1, .slice A0_2 l0_2.length c0_2, .slice A0_3 l0_3.length c0_3, .int .u32 a0_4, .int .u32 a0_5] 46 (0, 0)) (up_ BK343.out) hb); have n4_ := aM (blk_below (g := gb344) (o := .cells #[.int .u32 a1_0, .int .i64 a1_1, .slice A1_2 l1_2.length c1_2, .slice A1_3 l1_3.length c1_3, .int .u32 a1_4, .int .u32 a1_5, .int .i64 a1_6, .int .u32 a1_7] 50 (0, 0)) (up_ BK344.out) hb); have n5_ := aM (below_step (by repeat (first | (with_reducible first | exact HB.out | apply blA | apply blN | apply blD | refine bS ?_ GE343.out | refine bS ?_ GE344.out) | exact HB.out)) hb); clear BK343; clear BK344; clear HB; have HO351 := n0_; have HO354 := n1_; have HO357 := n2_; have BK343 := n3_; have BK344 := n4_; have HB := n5_; clear n0_ n1_ n2_ n3_ n4_ n5_; (try clear hb); (try clear hb2); (try clear hk); (try clear hi); (try clear ho0); (try clear ho1); (try clear ho2)) | ((with_reducible refine gate_dst (N := 5) rfl ?_); (try (refine gate_guard (by rfl) ?_; dsimp only)); refine box_event ?hg (N := 5) ?hd (cs := #[.int .i64 0, .slice none 0 0, .slice none 0 0, .slice none 0 0, .int .u32 0, .int .u32 0]) (t := 46) ?hr ?_; (case hd => rfl); (case hg => rfl); (case hr => first | (go_simp; done) | (go_simp; rfl)); intro gb360 hg w32 hbox hb; have n0_ := aM (Kd.R_below (uk_ HO351.out) hb); have n1_ := aM (Kd.N_below (Kd.N_elderB (by (with_reducible repeat (first | apply Kd.N_alloc | apply Kd.N_drewN | apply Kd.N_drew)); exact HO354.out) gb360 (Nat.le_of_eq hg.symm)) hb); have n2_ := aM (Kd.N_below (Kd.N_elderB (by (with_reducible repeat (first | apply Kd.N_alloc | apply Kd.N_drewN | apply Kd.N_drew)); exact HO357.out) gb360 (Nat.le_of_eq hg.symm)) hb); have n3_ := aM (blk_below (g := gb343) (o := .cells #[.int .i64 a0_0, .slice A0_1 l0_1.length c0_1, .slice A0_2 l0_2.length c0_2, .slice A0_3 l0_3.length c0_3, .int .u32 a0_4, .int .u32 a0_5] 46 (0, 0)) (up_ BK343.out) hb); have n4_ := aM (blk_below (g := gb344) (o := .cells #[.int .u32 a1_0, .int .i64 a1_1, .slice A1_2 l1_2.length c1_2, .slice A1_3 l1_3.length c1_3, .int .u32 a1_4, .int .u32 a1_5, .int .i64 a1_6, .int .u32 a1_7] 50 (0, 0)) (up_ BK344.out) hb); have n5_ := aM (below_step (by repeat (first | (with_reducible first | exact HB.out | apply blA | apply blN | apply blD | refine bS ?_ GE343.out | refine bS ?_ GE344.out) | exact HB.out)) hb); have n6_ := aM (hbox); have n7_ := aM ((by rw [hg]; exact (below_size (by repeat (first | (with_reducible first | exact HB.out | apply blA | apply blN | apply blD | refine bS ?_ GE343.out | refine bS ?_ GE344.out) | exact HB.out))) : w.heap.size ≤ gb360)); have n8_ := aM ((by rw [hg]; exact (below_size (by repeat (first | (with_reducible first | exact HB.out | apply blA | apply blN | apply blD | refine bS ?_ GE343.out | refine bS ?_ GE344.out) | exact HB.out))) : w.heap.size ≤ gb360)); have n9_ := aM ((by rw [hg]; exact Nat.ne_of_lt (blk_lt (g := gb343) (o := .cells #[.int .i64 a0_0, .slice A0_1 l0_1.length c0_1, .slice A0_2 l0_2.length c0_2, .slice A0_3 l0_3.length c0_3, .int .u32 a0_4, .int .u32 a0_5] 46 (0, 0)) (up_ BK343.out)) : gb343 ≠ gb360)); have n10_ := aM ((by rw [hg]; exact Nat.ne_of_gt (blk_lt (g := gb343) (o := .cells #[.int .i64 a0_0, .slice A0_1 l0_1.length c0_1, .slice A0_2 l0_2.length c0_2, .slice A0_3 l0_3.length c0_3, .int .u32 a0_4, .int .u32 a0_5] 46 (0, 0)) (up_ BK343.out)) : gb360 ≠ gb343)); have n11_ := aM ((by rw [hg]; exact Nat.ne_of_lt (blk_lt (g := gb344) (o := .cells #[.int .u32 a1_0, .int .i64 a1_1, .slice A1_2 l1_2.length c1_2, .slice A1_3 l1_3.length c1_3, .int .u32 a1_4, .int .u32 a1_5, .int .i64 a1_6, .int .u32 a1_7] 50 (0, 0)) (up_ BK344.out)) : gb344 ≠ gb360)); have n12_ := aM ((by rw [hg]; exact Nat.ne_of_gt (blk_lt (g := gb344) (o := .cells #[.int .u32 a1_0, .int .i64 a1_1, .slice A1_2 l1_2.length c1_2, .slice A1_3 l1_3.length c1_3, .int .u32 a1_4, .int .u32 a1_5, .int .i64 a1_6, .int .u32 a1_7] 50 (0, 0)) (up_ BK344.out)) : gb360 ≠ gb344)); clear HO351; clear HO354; clear HO357; clear BK343; clear BK344; clear HB; have HO351 := n0_; have HO354 := n1_; have HO357 := n2_; have BK343 := n3_; have BK344 := n4_; have HB := n5_; have BK360 := n6_; have GW360 := n7_; have GE360 := n8_; have NB343_360 := n9_; have NB360_343 := n10_; have NB344_360 := n11_; have NB360_344 := n12_; clear n0_ n1_ n2_ n3_ n4_ n5_ n6_ n7_ n8_ n9_ n10_ n11_ n12_; clear hb hbox hg; have hnb33 := NB360_343.out; have hnc33 := NB343_360.out; have hnb34 := NB360_344.out; have hnc34 := NB344_360.out; have hcz35_0 : w32.cell? ⟨gb360, 0, none⟩ = some (.int .i64 0) := (blk_cell BK360.out 0).trans rfl; have hcz35_1 : w32.cell? ⟨gb360, 1, none⟩ = some (.slice none 0 0) := (blk_cell BK360.out 1).trans rfl; have hcz35_2 : w32.cell? ⟨gb360, 2, none⟩ = some (.slice none 0 0) := (blk_cell BK360.out 2).trans rfl; have hcz35_3 : w32.cell? ⟨gb360, 3, none⟩ = some (.slice none 0 0) := (blk_cell BK360.out 3).trans rfl; have hcz35_4 : w32.cell? ⟨gb360, 4, none⟩ = some (.int .u32 0) := (blk_cell BK360.out 4).trans rfl; have hcz35_5 : w32.cell? ⟨gb360, 5, none⟩ = some (.int .u32 0) := (blk_cell BK360.out 5).trans rfl; have hfz35_0 := bF BK360.out 0; have hfz35_1 := bF BK360.out 1; have hfz35_2 := bF BK360.out 2; have hfz35_3 := bF BK360.out 3; have hfz35_4 := bF BK360.out 4; have hfz35_5 := bF BK360.out 5; obtain ⟨Ao36, co36, eo36⟩ := Kd.R_slice HO351.out; subst eo36; obtain ⟨Ao37, co37, eo37⟩ := Kd.N_slice HO354.out; subst eo37; obtain ⟨Ao38, co38, eo38⟩ := Kd.N_slice HO357.out; subst eo38))
       go_loopg [28] kj4 (fun kq v28 w' => ∃ (x28_2 : Int) (x361002_2 : List (S61)) (u361002 : Value), v28 = .int .i64 x28_2 ∧ Aside0 (dragomanlaw11_CondDenies.l0 kq (t352.length : Int) x28_2 a0_0 l0_1 l0_2 l0_3 a0_4 a0_5 a1_0 a1_1 l1_2 l1_3 a1_4 a1_5 a1_6 a1_7 t348 t349 x361002_2 t355 t358 t359 = some r) ∧ Aside0 (kq ≤ kj4) ∧ Aside0 (Kd.R k83 83 w' w.heap.size (fun _ => True) (.slice Ao36 t349.length co36) t349) ∧ Aside0 (Kd.N k61 61 w' w.heap.size (fun k_ => some k_ ≠ ((.slice Ao36 t349.length co36) : Value).ownBlock ∧ some k_ ≠ ((.slice Ao38 t355.length co38) : Value).ownBlock ∧ k_ ≠ gb343 ∧ k_ ≠ gb344 ∧ k_ ≠ gb360) u361002 x361002_2) ∧ Aside0 (Kd.N k64 64 w' w.heap.size (fun k_ => some k_ ≠ ((.slice Ao36 t349.length co36) : Value).ownBlock ∧ some k_ ≠ (u361002 : Value).ownBlock ∧ k_ ≠ gb343 ∧ k_ ≠ gb344 ∧ k_ ≠ gb360) (.slice Ao38 t355.length co38) t355) ∧ Aside0 (w'.heap[gb343]? = some (.cells #[.int .i64 a0_0, (.slice A0_1 l0_1.length c0_1), (.slice A0_2 l0_2.length c0_2), (.slice A0_3 l0_3.length c0_3), .int .u32 a0_4, .int .u32 a0_5] 46 (0, 0))) ∧ Aside0 (w'.heap[gb344]? = some (.cells #[.int .u32 a1_0, .int .i64 a1_1, (.slice A1_2 l1_2.length c1_2), (.slice A1_3 l1_3.length c1_3), .int .u32 a1_4, .int .u32 a1_5, .int .i64 a1_6, .int .u32 a1_7] 50 (0, 0))) ∧ Aside0 (w'.heap[gb360]? = some (.cells #[.int .i64 t348, (.slice Ao36 t349.length co36), u361002, (.slice Ao38 t355.length co38), .int .u32 t358, .int .u32 t359] 46 (0, 0))) ∧ Aside0 (Below w.heap.size w w'))
       case atStart => exact ⟨(0), (t352), (.slice Ao37 t352.length co37), (by first | rfl | (simp; done) | (simp [*]; done)), H', ⟨Nat.le_refl _⟩, ⟨by (with_reducible repeat (first | apply kA | apply kN | apply kD)); exact Kd.R_mono (Kd.R_far (p := ⟨gb360, 5, none⟩) (Kd.R_far (p := ⟨gb360, 4, none⟩) (Kd.R_far (p := ⟨gb360, 3, none⟩) (Kd.R_far (p := ⟨gb360, 2, none⟩) (Kd.R_far (p := ⟨gb360, 1, none⟩) (Kd.R_far (p := ⟨gb360, 0, none⟩) (Kd.R_types HO351.out BK360.out (by decide)) (fun _ hk => hk.2) (.int .i64 t348)) (fun _ hk => hk.2) (.slice Ao36 t349.length co36)) (fun _ hk => hk.2) (.slice Ao37 t352.length co37)) (fun _ hk => hk.2) (.slice Ao38 t355.length co38)) (fun _ hk => hk.2) (.int .u32 t358)) (fun _ hk => hk.2) (.int .u32 t359)) (fun _ hk => trivial)⟩, ⟨by (with_reducible repeat (first | apply Kd.N_alloc | apply Kd.N_drewN | apply Kd.N_drew)); exact Kd.N_mono (Kd.N_far (p := ⟨gb360, 5, none⟩) (Kd.N_far (p := ⟨gb360, 4, none⟩) (Kd.N_far (p := ⟨gb360, 3, none⟩) (Kd.N_far (p := ⟨gb360, 2, none⟩) (Kd.N_far (p := ⟨gb360, 1, none⟩) (Kd.N_far (p := ⟨gb360, 0, none⟩) (Kd.N_mono HO354.out (fun k_ hk => (⟨hk, hk.2⟩ : _ ∧ k_ ≠ gb360))) (fun _ hk => hk.2) (.int .i64 t348)) (fun _ hk => hk.2) (.slice Ao36 t349.length co36)) (fun _ hk => hk.2) (.slice Ao37 t352.length co37)) (fun _ hk => hk.2) (.slice Ao38 t355.length co38)) (fun _ hk => hk.2) (.int .u32 t358)) (fun _ hk => hk.2) (.int .u32 t359)) (fun _ hk => ⟨hk.1.1.1, ⟨hk.1.1.2.1, ⟨hk.1.1.2.2.1, ⟨hk.1.1.2.2.2, hk.1.2⟩⟩⟩⟩)⟩, ⟨by (with_reducible repeat (first | apply Kd.N_alloc | apply Kd.N_drewN | apply Kd.N_drew)); exact Kd.N_mono (Kd.N_far (p := ⟨gb360, 5, none⟩) (Kd.N_far (p := ⟨gb360, 4, none⟩) (Kd.N_far (p := ⟨gb360, 3, none⟩) (Kd.N_far (p := ⟨gb360, 2, none⟩) (Kd.N_far (p := ⟨gb360, 1, none⟩) (Kd.N_far (p := ⟨gb360, 0, none⟩) (Kd.N_mono HO357.out (fun k_ hk => (⟨hk, hk.2⟩ : _ ∧ k_ ≠ gb360))) (fun _ hk => hk.2) (.int .i64 t348)) (fun _ hk => hk.2) (.slice Ao36 t349.length co36)) (fun _ hk => hk.2) (.slice Ao37 t352.length co37)) (fun _ hk => hk.2) (.slice Ao38 t355.length co38)) (fun _ hk => hk.2) (.int .u32 t358)) (fun _ hk => hk.2) (.int .u32 t359)) (fun _ hk => ⟨hk.1.1.1, ⟨hk.1.1.2.1, ⟨hk.1.1.2.2.1, ⟨hk.1.1.2.2.2, hk.1.2⟩⟩⟩⟩)⟩, ⟨by (with_reducible repeat (first | apply bkN | apply bkD | apply bkA)); refine blk_far ?_ NB343_360.out _; (with_reducible repeat (first | apply bkN | apply bkD | apply bkA)); refine blk_far ?_ NB343_360.out _; (with_reducible repeat (first | apply bkN | apply bkD | apply bkA)); refine blk_far ?_ NB343_360.out _; (with_reducible repeat (first | apply bkN | apply bkD | apply bkA)); refine blk_far ?_ NB343_360.out _; (with_reducible repeat (first | apply bkN | apply bkD | apply bkA)); refine blk_far ?_ NB343_360.out _; (with_reducible repeat (first | apply bkN | apply bkD | apply bkA)); refine blk_far ?_ NB343_360.out _; (with_reducible repeat (first | apply bkN | apply bkD | apply bkA)); exact BK343.out⟩, ⟨by (with_reducible repeat (first | apply bkN | apply bkD | apply bkA)); refine blk_far ?_ NB344_360.out _; (with_reducible repeat (first | apply bkN | apply bkD | apply bkA)); refine blk_far ?_ NB344_360.out _; (with_reducible repeat (first | apply bkN | apply bkD | apply bkA)); refine blk_far ?_ NB344_360.out _; (with_reducible repeat (first | apply bkN | apply bkD | apply bkA)); refine blk_far ?_ NB344_360.out _; (with_reducible repeat (first | apply bkN | apply bkD | apply bkA)); refine blk_far ?_ NB344_360.out _; (with_reducible repeat (first | apply bkN | apply bkD | apply bkA)); refine blk_far ?_ NB344_360.out _; (with_reducible repeat (first | apply bkN | apply bkD | apply bkA)); exact BK344.out⟩, ⟨by (with_reducible repeat (first | apply bkN | apply bkD | apply bkA)); refine blk_put (cs := #[.int .i64 t348, .slice Ao36 t349.length co36, .slice Ao37 t352.length co37, .slice Ao38 t355.length co38, .int .u32 t358, .int .u32 0]) ?_ 5 _ rfl; (with_reducible repeat (first | apply bkN | apply bkD | apply bkA)); refine blk_put (cs := #[.int .i64 t348, .slice Ao36 t349.length co36, .slice Ao37 t352.length co37, .slice Ao38 t355.length co38, .int .u32 0, .int .u32 0]) ?_ 4 _ rfl; (with_reducible repeat (first | apply bkN | apply bkD | apply bkA)); refine blk_put (cs := #[.int .i64 t348, .slice Ao36 t349.length co36, .slice Ao37 t352.length co37, .slice none 0 0, .int .u32 0, .int .u32 0]) ?_ 3 _ rfl; (with_reducible repeat (first | apply bkN | apply bkD | apply bkA)); refine blk_put (cs := #[.int .i64 t348, .slice Ao36 t349.length co36, .slice none 0 0, .slice none 0 0, .int .u32 0, .int .u32 0]) ?_ 2 _ rfl; (with_reducible repeat (first | apply bkN | apply bkD | apply bkA)); refine blk_put (cs := #[.int .i64 t348, .slice none 0 0, .slice none 0 0, .slice none 0 0, .int .u32 0, .int .u32 0]) ?_ 1 _ rfl; (with_reducible repeat (first | apply bkN | apply bkD | apply bkA)); refine blk_put (cs := #[.int .i64 0, .slice none 0 0, .slice none 0 0, .slice none 0 0, .int .u32 0, .int .u32 0]) ?_ 0 _ rfl; (with_reducible repeat (first | apply bkN | apply bkD | apply bkA)); exact BK360.out⟩, ⟨by repeat (first | (with_reducible first | exact HB.out | apply blA | apply blN | apply blD | refine bS ?_ GE343.out | refine bS ?_ GE344.out | refine bS ?_ GE360.out) | exact HB.out)⟩⟩
       case round =>
        clear H'
        obtain ⟨x28_2, x361002_2, u361002, rfl, HA, HK2, HO_361001, HO_361002, HO_361003, BK343, BK344, BK360, HB⟩ := hrel
        cases gk with
        | zero => exact absurd HA.out (by simp [dragomanlaw11_CondDenies.l0])
        | succ k2 =>
         have H := HA.out
         clear HA
         simp only [dragomanlaw11_CondDenies.l0] at H
         by_cases c39 : x28_2 < (t352.length : Int)
         · rw [if_pos c39] at H
           have c39b0 : decide (x28_2 < (t352.length : Int)) = true := decide_eq_true c39
           clear c39
           by_cases c40 : 0 ≤ x28_2
           · rw [if_pos c40] at H
             have c40b0 : decide (0 ≤ x28_2) = true := decide_eq_true c40
             clear c40
             by_cases c41 : x28_2 < (x361002_2.length : Int)
             · rw [if_pos c41] at H
               have c41b0 : decide (x28_2 < (x361002_2.length : Int)) = true := decide_eq_true c41
               clear c41
               obtain ⟨y362, hy362⟩ : ∃ y_ : List (S61), y_ = (x361002_2.set (x28_2 : Int).toNat (⟨!((rd_T61 x361002_2 x28_2).f0), (⟨(rd_T61 x361002_2 x28_2).f1.f0, (rd_T61 x361002_2 x28_2).f1.f1, (rd_T61 x361002_2 x28_2).f1.f2⟩ : S25)⟩ : S61)) := ⟨_, rfl⟩
               replace H : (dragomanlaw11_CondDenies.l0 k2 (t352.length : Int) (wrap64 (x28_2 + 1)) a0_0 l0_1 l0_2 l0_3 a0_4 a0_5 a1_0 a1_1 l1_2 l1_3 a1_4 a1_5 a1_6 a1_7 t348 t349 y362 t355 t358 t359) = some r := by first | (rw [hy362]; with_reducible exact H) | (have H2_ := (Option.bind_some _ _).symm.trans H; rw [hy362]; with_reducible exact H2_) | (have H2_ := (Option.bind_some _ _).symm.trans H; with_reducible exact H2_) | with_reducible exact H | (rw [hy362]; exact H) | exact H
               have Ny362 := aM hy362
               clear hy362
               have H' := aM H
               clear H
               try go_wp2
               have n0_ := aM (Kd.R_drew HO_361001.out)
               have n1_ := aM (Kd.N_drew HO_361002.out)
               have n2_ := aM (Kd.N_drew HO_361003.out)
               have n3_ := aM (blk_drew BK343.out)
               have n4_ := aM (blk_drew BK344.out)
               have n5_ := aM (blk_drew BK360.out)
               have n6_ := aM (below_drew1 HB.out)
               clear HO_361001
               clear HO_361002
               clear HO_361003
               clear BK343
               clear BK344
               clear BK360
               clear HB
               have HO_361001 := n0_
               have HO_361002 := n1_
               have HO_361003 := n2_
               have BK343 := n3_
               have BK344 := n4_
               have BK360 := n5_
               have HB := n6_
               clear n0_ n1_ n2_ n3_ n4_ n5_ n6_
               obtain ⟨Ao44, co44, eo44⟩ := Kd.N_slice HO_361002.out
               (first | subst eo44 | (injection eo44 with f1_ f2_ f3_; have f4_ := f1_.symm; have f5_ := f3_.symm; clear f1_ f2_ f3_; subst f4_; subst f5_))
               have p361 : 0 ≤ (x28_2 : Int) := of_decide_eq_true (by first | (with_reducible assumption) | assumption)
               have q361 : x28_2 < (x361002_2.length : Int) := of_decide_eq_true (by first | (with_reducible assumption) | assumption)
               obtain ⟨ad361, A361_2, c361_2, A361_3, c361_3, e361, hx361_0, hx361_1, hx361_2, hx361_3, hl361_2, hi361_2, hl361_3, hi361_3⟩ := at_T61 (Kd.N_reads' HO_361002.out).2.2 x28_2 p361 q361
               cases e361
               obtain ⟨ce361, hce361, hMe361, hcc361⟩ := Kd.N_get HO_361002.out z61 x28_2 p361 (by first | exact q361 | exact of_decide_eq_true (by first | (with_reducible assumption) | assumption) | (have e_ := (Kd.N_reads' HO_361002.out).1; omega))
               obtain ⟨ua361_2, uc361_2, ua361_3, uc361_3, rfl, ul361_2, ge361_2, ul361_3, ge361_3⟩ := k61_openF hMe361
               have hv361_2 := hcc361 2 _ rfl
               rw [add_field _ _ 2 (by omega)] at hv361_2
               replace hv361_2 := Option.some.inj (hv361_2.symm.trans hx361_2)
               injection hv361_2 with hva_ hvn_ hvc_
               rw [hva_] at ge361_2
               rw [hvc_] at ul361_2
               have HL361_2 := aM (show Kd.V k66 66 _ w.heap.size _ _ ((rd_T61 x361002_2 x28_2).f1.f1) from Kd.V_mk ul361_2 ge361_2)
               clear hva_ hvn_ hvc_ ge361_2 ul361_2
               have hv361_3 := hcc361 3 _ rfl
               rw [add_field _ _ 3 (by omega)] at hv361_3
               replace hv361_3 := Option.some.inj (hv361_3.symm.trans hx361_3)
               injection hv361_3 with hva_ hvn_ hvc_
               rw [hva_] at ge361_3
               rw [hvc_] at ul361_3
               have HL361_3 := aM (show Kd.V k25 25 _ w.heap.size _ _ ((rd_T61 x361002_2 x28_2).f1.f2) from Kd.V_mk ul361_3 ge361_3)
               clear hva_ hvn_ hvc_ ge361_3 ul361_3
               clear hcc361 hce361
               have HR361_2 := aM hi361_2
               have HC361_2 := aM hl361_2
               clear hi361_2 hl361_2
               have HR361_3 := aM hi361_3
               have HC361_3 := aM hl361_3
               clear hi361_3 hl361_3
               replace p361 := eq_true p361
               replace q361 := eq_true q361
               have p42 : 0 ≤ (x28_2 : Int) := of_decide_eq_true (by first | (with_reducible assumption) | assumption)
               have q42 : (x28_2 : Int) < ((x361002_2.length : Int) : Int) := of_decide_eq_true (by first | (with_reducible assumption) | assumption)
               obtain ⟨go42, co42, eo42, gb42, gl42, cl42, HG42⟩ := Kd.N_form HO_361002.out (by omega)
               (first | cases eo42 | (injection eo42 with ea_ en_ ec_; (first | subst ea_ | (injection ea_ with ea_; subst ea_)); subst ec_; clear en_))
               have GB42 := aM gb42
               have GG42 := aM HG42
               clear gb42 gl42 HG42
               (first | simp only [add_plain] at hx361_0 | skip)
               (first | simp only [add_plain] at hx361_1 | skip)
               (first | simp only [add_plain] at hx361_2 | skip)
               (first | simp only [add_plain] at hx361_3 | skip)
               obtain ⟨ce42, hcl42, hM42, hcc42, hfr42⟩ := Kd.N_elem HO_361002.out z61 (x28_2 : Int) p42 q42
               obtain ⟨ua42_2, uc42_2, ua42_3, uc42_3, rfl, ul42_2, ge42_2, ul42_3, ge42_3⟩ := k61_openF hM42
               have hx42_0 : World.cell? _ ⟨go42, (x28_2 : Int).toNat * 4, none⟩ = some (.bool ((rd_T61 x361002_2 x28_2).f0)) := hcc42 0 _ rfl
               have hx42_1 : World.cell? _ ⟨go42, (x28_2 : Int).toNat * 4 + 1, none⟩ = some (.int .i64 ((rd_T61 x361002_2 x28_2).f1.f0)) := hcc42 1 _ rfl
               have hx42_2 : World.cell? _ ⟨go42, (x28_2 : Int).toNat * 4 + 2, none⟩ = some (.slice ua42_2 ((rd_T61 x361002_2 x28_2).f1.f1).length uc42_2) := hcc42 2 _ rfl
               have hx42_3 : World.cell? _ ⟨go42, (x28_2 : Int).toNat * 4 + 3, none⟩ = some (.slice ua42_3 ((rd_T61 x361002_2 x28_2).f1.f2).length uc42_3) := hcc42 3 _ rfl
               have hf42_0 : World.frozen? _ ⟨go42, (x28_2 : Int).toNat * 4, none⟩ = false := hfr42 0
               have hf42_1 : World.frozen? _ ⟨go42, (x28_2 : Int).toNat * 4 + 1, none⟩ = false := hfr42 1
               have hf42_2 : World.frozen? _ ⟨go42, (x28_2 : Int).toNat * 4 + 2, none⟩ = false := hfr42 2
               have hf42_3 : World.frozen? _ ⟨go42, (x28_2 : Int).toNat * 4 + 3, none⟩ = false := hfr42 3
               clear hcl42 hcc42 hfr42 hM42
               replace p42 := eq_true p42
               replace q42 := eq_true q42
               have HX45 := aM (show Kd.N k61 61 _ w.heap.size (fun k_ => some k_ ≠ (.slice Ao36 t349.length co36 : Value).ownBlock ∧ some k_ ≠ (.slice Ao38 t355.length co38 : Value).ownBlock ∧ k_ ≠ gb343 ∧ k_ ≠ gb344 ∧ k_ ≠ gb360) (.slice (some ⟨go42, 0, none⟩) x361002_2.length co44) x361002_2 from (Kd.N_mono (HO_361002.out) (fun k_ hk => ⟨hk.1, ⟨hk.2.1, ⟨hk.2.2.1, ⟨hk.2.2.2.1, hk.2.2.2.2⟩⟩⟩⟩)))
               obtain ⟨ce45, hcl45, hM45, hcc45, hfr45⟩ := Kd.N_elem HX45.out z61 (x28_2 : Int) (of_decide_eq_true (by first | (with_reducible assumption) | assumption)) (by have h_ : (x28_2 : Int) < ((x361002_2.length : Int) : Int) := of_decide_eq_true (by first | (with_reducible assumption) | assumption); first | exact h_ | (have e_ := (Kd.N_reads' HO_361002.out).1; omega) | simpa using h_)
               obtain ⟨ua45_2, uc45_2, ua45_3, uc45_3, rfl, ul45_2, ge45_2, ul45_3, ge45_3⟩ := k61_openF hM45
               have HP45 := (Kd.N_seg HX45.out (x28_2 : Int) (of_decide_eq_true (by first | (with_reducible assumption) | assumption)) (by have h_ : (x28_2 : Int) < ((x361002_2.length : Int) : Int) := of_decide_eq_true (by first | (with_reducible assumption) | assumption); first | exact h_ | (have e_ := (Kd.N_reads' HO_361002.out).1; omega) | simpa using h_) (seg := [.bool (!((rd_T61 x361002_2 x28_2).f0))]) (j := 0) hcl45 hcc45 (show 1 ≤ 4 from by decide) (x' := (⟨!((rd_T61 x361002_2 x28_2).f0), (⟨(rd_T61 x361002_2 x28_2).f1.f0, (rd_T61 x361002_2 x28_2).f1.f1, (rd_T61 x361002_2 x28_2).f1.f2⟩ : S25)⟩ : S61)) (k61_mkF _ _ (⟨!((rd_T61 x361002_2 x28_2).f0), (⟨(rd_T61 x361002_2 x28_2).f1.f0, (rd_T61 x361002_2 x28_2).f1.f1, (rd_T61 x361002_2 x28_2).f1.f2⟩ : S25)⟩ : S61) ul45_2 ge45_2 ul45_3 ge45_3) (fun _ hk => hk)).1
               rw [← Ny362.out] at HP45
               have HQ45 := aM HP45
               clear hcl45 hcc45 hfr45 hM45 HP45
               refine start_ (n := 13) (S := fun w' => w'.cell? ⟨gb360, 0, none⟩ = some (.int .i64 t348) ∧ w'.cell? ⟨gb360, 1, none⟩ = some (.slice Ao36 t349.length co36) ∧ w'.cell? ⟨gb360, 2, none⟩ = some (.slice (some ⟨go42, 0, none⟩) x361002_2.length co44) ∧ w'.cell? ⟨gb360, 3, none⟩ = some (.slice Ao38 t355.length co38) ∧ w'.cell? ⟨gb360, 4, none⟩ = some (.int .u32 t358) ∧ w'.cell? ⟨gb360, 5, none⟩ = some (.int .u32 t359) ∧ w'.cell? ⟨go42, ((x28_2).toNat * 4), none⟩ = some (.bool ((rd_T61 x361002_2 x28_2).f0)) ∧ w'.cell? ⟨go42, ((x28_2).toNat * 4) + 1, none⟩ = some (.int .i64 ((rd_T61 x361002_2 x28_2).f1.f0)) ∧ w'.cell? ⟨go42, ((x28_2).toNat * 4) + 2, none⟩ = some (.slice A361_2 ((rd_T61 x361002_2 x28_2).f1.f1).length c361_2) ∧ w'.cell? ⟨go42, ((x28_2).toNat * 4) + 3, none⟩ = some (.slice A361_3 ((rd_T61 x361002_2 x28_2).f1.f2).length c361_3)) (ds := [12]) (tf 0 13) (by kernel_rfl) rfl rfl ⟨(blk_cell BK360.out 0).trans rfl, (blk_cell BK360.out 1).trans rfl, (blk_cell BK360.out 2).trans rfl, (blk_cell BK360.out 3).trans rfl, (blk_cell BK360.out 4).trans rfl, (blk_cell BK360.out 5).trans rfl, hx361_0, hx361_1, hx361_2, hx361_3⟩ (fun hHeld => ?_); refine with_tabW dragomanlaw11_CondDenies.tab9 dragomanlaw11_CondDenies.bits9 (fun HT_ HW_ => ?_)
               generalize wr.drew = w43 at HO_361001 HO_361002 HO_361003 BK343 BK344 BK360 HB GG42 HL361_2 HL361_3 HQ45 HR361_2 HR361_3 hf42_0 hf42_1 hf42_2 hf42_3 hx361_0 hx361_1 hx361_2 hx361_3 hx42_0 hx42_1 hx42_2 hx42_3 hHeld ⊢
               refine pure_ (i := 0) (N := some 31) (v := ?_) (a' := ?_) (tf 1 12) rfl rfl (any_of HT_.out (by kernel_rfl)) (fun _ _ _ h => h) (Or.inl ⟨by rfl, ?_⟩) ?_ ?_
               rotate_left
               · intro w'
                 go_simp
                 with_reducible rfl
               rotate_left
               · simp only [Act.put, sT, sZ, sS, i64_w, i32_w]
                 rfl
               refine pure_ (i := 2) (N := some 33) (v := ?_) (a' := ?_) #[true, false, true, false, false, false, false, false, false, false, false, false, false] rfl rfl (any_of HT_.out (by kernel_rfl)) (fun _ _ _ h => h) (Or.inl ⟨by rfl, ?_⟩) ?_ ?_
               rotate_left
               · intro w'
                 go_simp
                 with_reducible rfl
               rotate_left
               · simp only [Act.put, sT, sZ, sS, i64_w, i32_w]
                 rfl
               refine pure_ (i := 3) (N := some 34) (v := ?_) (a' := ?_) #[true, false, true, true, false, false, false, false, false, false, false, false, false] rfl rfl (any_of HT_.out (by kernel_rfl)) (fun _ _ _ h => h) (Or.inl ⟨by rfl, ?_⟩) ?_ ?_
               rotate_left
               · intro w'
                 go_simp
                 with_reducible rfl
               rotate_left
               · simp only [Act.put, sT, sZ, sS, i64_w, i32_w]
                 rfl
               refine pure_ (i := 5) (N := some 36) (v := ?_) (a' := ?_) #[true, false, true, true, false, true, false, false, false, false, false, false, false] rfl rfl (any_of HT_.out (by kernel_rfl)) (fun _ _ _ h => h) (Or.inl ⟨by rfl, ?_⟩) ?_ ?_
               rotate_left
               · intro w'
                 go_simp
                 with_reducible rfl
               rotate_left
               · simp only [Act.put, sT, sZ, sS, i64_w, i32_w]
                 rfl
               refine take_ (i := 1) (N := some 32) (v := ?_) (a' := ?_) #[true, true, true, true, false, true, false, false, false, false, false, false, false] rfl rfl (take_ofW HT_.out HW_.out (by kernel_rfl)) (fun _ _ _ h => h) (Or.inl ⟨by rfl, ?_⟩) hHeld ?_ ?_
               rotate_left
               · rintro w' ⟨s0, s1, s2, s3, s4, s5, s6, s7, s8, s9⟩
                 go_simp
                 with_reducible rfl
               rotate_left
               · simp only [Act.put, sT, sZ, sS, i64_w, i32_w]
                 rfl
               refine take_ (i := 4) (N := some 35) (v := ?_) (a' := ?_) (tf 6 7) rfl rfl (take_ofW HT_.out HW_.out (by kernel_rfl)) (fun _ _ _ h => h) (Or.inl ⟨by rfl, ?_⟩) hHeld ?_ ?_
               rotate_left
               · rintro w' ⟨s0, s1, s2, s3, s4, s5, s6, s7, s8, s9⟩
                 go_simp
                 with_reducible rfl
               rotate_left
               · simp only [Act.put, sT, sZ, sS, i64_w, i32_w]
                 rfl
               refine pure_ (i := 6) (N := some 37) (v := ?_) (a' := ?_) (tf 7 6) rfl rfl (any_of HT_.out (by kernel_rfl)) (fun _ _ _ h => h) (Or.inl ⟨by rfl, ?_⟩) ?_ ?_
               rotate_left
               · intro w'
                 go_simp
                 with_reducible rfl
               rotate_left
               · simp only [Act.put, sT, sZ, sS, i64_w, i32_w]
                 rfl
               refine pure_ (i := 7) (N := some 38) (v := ?_) (a' := ?_) (tf 8 5) rfl rfl (any_of HT_.out (by kernel_rfl)) (fun _ _ _ h => h) (Or.inl ⟨by rfl, ?_⟩) ?_ ?_
               rotate_left
               · intro w'
                 go_simp
                 with_reducible rfl
               rotate_left
               · simp only [Act.put, sT, sZ, sS, i64_w, i32_w]
                 rfl
               refine take_ (i := 8) (N := some 39) (v := ?_) (a' := ?_) (tf 9 4) rfl rfl (take_ofW HT_.out HW_.out (by kernel_rfl)) (fun _ _ _ h => h) (Or.inl ⟨by rfl, ?_⟩) hHeld ?_ ?_
               rotate_left
               · rintro w' ⟨s0, s1, s2, s3, s4, s5, s6, s7, s8, s9⟩
                 go_simp
                 with_reducible rfl
               rotate_left
               · simp only [Act.put, sT, sZ, sS, i64_w, i32_w]
                 rfl
               refine pure_ (i := 9) (N := some 40) (v := ?_) (a' := ?_) (tf 10 3) rfl rfl (any_of HT_.out (by kernel_rfl)) (fun _ _ _ h => h) (Or.inl ⟨by rfl, ?_⟩) ?_ ?_
               rotate_left
               · intro w'
                 go_simp
                 with_reducible rfl
               rotate_left
               · simp only [Act.put, sT, sZ, sS, i64_w, i32_w]
                 rfl
               refine pure_ (i := 10) (N := some 41) (v := ?_) (a' := ?_) (tf 11 2) rfl rfl (any_of HT_.out (by kernel_rfl)) (fun _ _ _ h => h) (Or.inl ⟨by rfl, ?_⟩) ?_ ?_
               rotate_left
               · intro w'
                 go_simp
                 with_reducible rfl
               rotate_left
               · simp only [Act.put, sT, sZ, sS, i64_w, i32_w]
                 rfl
               refine pure_ (i := 11) (N := some 42) (v := ?_) (a' := ?_) (tf 12 1) rfl rfl (any_of HT_.out (by kernel_rfl)) (fun _ _ _ h => h) (Or.inl ⟨by rfl, ?_⟩) ?_ ?_
               rotate_left
               · intro w'
                 go_simp
                 with_reducible rfl
               rotate_left
               · simp only [Act.put, sT, sZ, sS, i64_w, i32_w]
                 rfl
               refine last_ (i := 12) (N := none) (tf 13 0) rfl rfl (one_of HT_.out (by kernel_rfl)) (by decide) (fun K hK => ?_)
               refine skip_ (w1 := ?_) (by rfl) rfl ?_ ?_
               rotate_left
               · go_simp
                 rfl
               refine hK.out _ _ ?_
               clear hK K
               refine done_ (done_of HT_.out (by kernel_rfl)) ?_
               try go_wp2
               go_roundg k2
               case measure => have := HJ4.out; have := HK2.out; omega
               case rel => exact ⟨(wrap64 (x28_2 + 1)), (y362), (.slice (some ⟨go42, 0, none⟩) x361002_2.length co44), (by first | rfl | (simp; done) | (simp [*]; done)), H', ⟨by have := HJ4.out; have := HK2.out; omega⟩, ⟨by (with_reducible repeat (first | apply kA | apply kN | apply kD)); exact Kd.R_mono (Kd.R_far (p := ⟨go42, (x28_2 : Int).toNat * 4, none⟩) (Kd.R_types HO_361001.out GG42.out (by decide)) (fun _ hk => hk.2) (.bool (!((rd_T61 x361002_2 x28_2).f0)))) (fun _ hk => trivial)⟩, ⟨by (with_reducible repeat (first | apply Kd.N_alloc | apply Kd.N_drewN | apply Kd.N_drew)); exact HQ45.out⟩, ⟨by (with_reducible repeat (first | apply Kd.N_alloc | apply Kd.N_drewN | apply Kd.N_drew)); exact Kd.N_mono (Kd.N_far (p := ⟨go42, (x28_2 : Int).toNat * 4, none⟩) (Kd.N_mono HO_361003.out (fun k_ hk => (⟨hk, fun e_ => hk.2.1 (by rw [e_]; rfl)⟩ : _ ∧ k_ ≠ go42))) (fun _ hk => hk.2) (.bool (!((rd_T61 x361002_2 x28_2).f0)))) (fun _ hk => ⟨hk.1.1, ⟨hk.1.2.1, ⟨hk.1.2.2.1, ⟨hk.1.2.2.2.1, hk.1.2.2.2.2⟩⟩⟩⟩)⟩, ⟨by (with_reducible repeat (first | apply bkN | apply bkD | apply bkA)); refine blk_far ?_ (by have h_ := Kd.N_away HO_361002.out (fun _ hk => hk.2.2.1); intro e_; exact h_ (by rw [e_]; rfl)) _; (with_reducible repeat (first | apply bkN | apply bkD | apply bkA)); exact BK343.out⟩, ⟨by (with_reducible repeat (first | apply bkN | apply bkD | apply bkA)); refine blk_far ?_ (by have h_ := Kd.N_away HO_361002.out (fun _ hk => hk.2.2.2.1); intro e_; exact h_ (by rw [e_]; rfl)) _; (with_reducible repeat (first | apply bkN | apply bkD | apply bkA)); exact BK344.out⟩, ⟨by (with_reducible repeat (first | apply bkN | apply bkD | apply bkA)); refine blk_far ?_ (by have h_ := Kd.N_away HO_361002.out (fun _ hk => hk.2.2.2.2); intro e_; exact h_ (by rw [e_]; rfl)) _; (with_reducible repeat (first | apply bkN | apply bkD | apply bkA)); exact BK360.out⟩, ⟨by repeat (first | (with_reducible first | exact HB.out | apply blA | apply blN | apply blD | refine bS ?_ GB42.out | refine bS ?_ GE343.out | refine bS ?_ GE344.out | refine bS ?_ GE360.out) | exact HB.out)⟩⟩
             · rw [if_neg c41] at H
               exact absurd H (by simp)
           · rw [if_neg c40] at H
             exact absurd H (by simp)
         · rw [if_neg c39] at H
           have c39b0 : decide (x28_2 < (t352.length : Int)) = false := decide_eq_false c39
           clear c39
           have H' := aM H
           clear H
           have hnb46 := NB360_343.out
           have hnc46 := NB343_360.out
           have hnb47 := NB360_344.out
           have hnc47 := NB344_360.out
           have hcz48_0 : wr.cell? ⟨gb360, 0, none⟩ = some (.int .i64 t348) := (blk_cell BK360.out 0).trans rfl
           have hcz48_1 : wr.cell? ⟨gb360, 1, none⟩ = some (.slice Ao36 t349.length co36) := (blk_cell BK360.out 1).trans rfl
           have hcz48_2 : wr.cell? ⟨gb360, 2, none⟩ = some (u361002) := (blk_cell BK360.out 2).trans rfl
           have hcz48_3 : wr.cell? ⟨gb360, 3, none⟩ = some (.slice Ao38 t355.length co38) := (blk_cell BK360.out 3).trans rfl
           have hcz48_4 : wr.cell? ⟨gb360, 4, none⟩ = some (.int .u32 t358) := (blk_cell BK360.out 4).trans rfl
           have hcz48_5 : wr.cell? ⟨gb360, 5, none⟩ = some (.int .u32 t359) := (blk_cell BK360.out 5).trans rfl
           have hfz48_0 := bF BK360.out 0
           have hfz48_1 := bF BK360.out 1
           have hfz48_2 := bF BK360.out 2
           have hfz48_3 := bF BK360.out 3
           have hfz48_4 := bF BK360.out 4
           have hfz48_5 := bF BK360.out 5
           go_wp2
           go_loopg [47] k2 (fun kq v47 w' => ∃ (x47_3 : Int) (x361003_3 : List (S64)) (u361003 : Value), v47 = .int .i64 x47_3 ∧ Aside0 (dragomanlaw11_CondDenies.l1 kq (t355.length : Int) x47_3 a0_0 l0_1 l0_2 l0_3 a0_4 a0_5 a1_0 a1_1 l1_2 l1_3 a1_4 a1_5 a1_6 a1_7 t348 t349 x361002_2 x361003_3 t358 t359 = some r) ∧ Aside0 (kq ≤ k2) ∧ Aside0 (Kd.R k83 83 w' w.heap.size (fun _ => True) (.slice Ao36 t349.length co36) t349) ∧ Aside0 (Kd.N k61 61 w' w.heap.size (fun k_ => some k_ ≠ ((.slice Ao36 t349.length co36) : Value).ownBlock ∧ some k_ ≠ (u361003 : Value).ownBlock ∧ k_ ≠ gb343 ∧ k_ ≠ gb344 ∧ k_ ≠ gb360) u361002 x361002_2) ∧ Aside0 (Kd.N k64 64 w' w.heap.size (fun k_ => some k_ ≠ ((.slice Ao36 t349.length co36) : Value).ownBlock ∧ some k_ ≠ (u361002 : Value).ownBlock ∧ k_ ≠ gb343 ∧ k_ ≠ gb344 ∧ k_ ≠ gb360) u361003 x361003_3) ∧ Aside0 (w'.heap[gb343]? = some (.cells #[.int .i64 a0_0, (.slice A0_1 l0_1.length c0_1), (.slice A0_2 l0_2.length c0_2), (.slice A0_3 l0_3.length c0_3), .int .u32 a0_4, .int .u32 a0_5] 46 (0, 0))) ∧ Aside0 (w'.heap[gb344]? = some (.cells #[.int .u32 a1_0, .int .i64 a1_1, (.slice A1_2 l1_2.length c1_2), (.slice A1_3 l1_3.length c1_3), .int .u32 a1_4, .int .u32 a1_5, .int .i64 a1_6, .int .u32 a1_7] 50 (0, 0))) ∧ Aside0 (w'.heap[gb360]? = some (.cells #[.int .i64 t348, (.slice Ao36 t349.length co36), u361002, u361003, .int .u32 t358, .int .u32 t359] 46 (0, 0))) ∧ Aside0 (Below w.heap.size w w'))
           case atStart => exact ⟨(0), (t355), (.slice Ao38 t355.length co38), (by first | rfl | (simp; done) | (simp [*]; done)), H', ⟨Nat.le_refl _⟩, ⟨by (with_reducible repeat (first | apply kA | apply kN | apply kD)); exact HO_361001.out⟩, ⟨by (with_reducible repeat (first | apply Kd.N_alloc | apply Kd.N_drewN | apply Kd.N_drew)); exact HO_361002.out⟩, ⟨by (with_reducible repeat (first | apply Kd.N_alloc | apply Kd.N_drewN | apply Kd.N_drew)); exact HO_361003.out⟩, ⟨by (with_reducible repeat (first | apply bkN | apply bkD | apply bkA)); exact BK343.out⟩, ⟨by (with_reducible repeat (first | apply bkN | apply bkD | apply bkA)); exact BK344.out⟩, ⟨by (with_reducible repeat (first | apply bkN | apply bkD | apply bkA)); exact BK360.out⟩, ⟨by repeat (first | (with_reducible first | exact HB.out | apply blA | apply blN | apply blD | refine bS ?_ GE343.out | refine bS ?_ GE344.out | refine bS ?_ GE360.out) | exact HB.out)⟩⟩
           case round =>
            clear H'
            obtain ⟨x47_3, x361003_3, u361003, rfl, HA, HK3, HO_361001, HO_361002, HO_361003, BK343, BK344, BK360, HB⟩ := hrel
            cases gk with
            | zero => exact absurd HA.out (by simp [dragomanlaw11_CondDenies.l1])
            | succ k3 =>
             have H := HA.out
             clear HA
             simp only [dragomanlaw11_CondDenies.l1] at H
             by_cases c49 : x47_3 < (t355.length : Int)
             · rw [if_pos c49] at H
               have c49b0 : decide (x47_3 < (t355.length : Int)) = true := decide_eq_true c49
               clear c49
               by_cases c50 : 0 ≤ x47_3
               · rw [if_pos c50] at H
                 have c50b0 : decide (0 ≤ x47_3) = true := decide_eq_true c50
                 clear c50
                 by_cases c51 : x47_3 < (x361003_3.length : Int)
                 · rw [if_pos c51] at H
                   have c51b0 : decide (x47_3 < (x361003_3.length : Int)) = true := decide_eq_true c51
                   clear c51
                   obtain ⟨y364, hy364⟩ : ∃ y_ : List (S64), y_ = (x361003_3.set (x47_3 : Int).toNat (⟨!((rd_T64 x361003_3 x47_3).f0), (rd_T64 x361003_3 x47_3).f1⟩ : S64)) := ⟨_, rfl⟩
                   replace H : (dragomanlaw11_CondDenies.l1 k3 (t355.length : Int) (wrap64 (x47_3 + 1)) a0_0 l0_1 l0_2 l0_3 a0_4 a0_5 a1_0 a1_1 l1_2 l1_3 a1_4 a1_5 a1_6 a1_7 t348 t349 x361002_2 y364 t358 t359) = some r := by first | (rw [hy364]; with_reducible exact H) | (have H2_ := (Option.bind_some _ _).symm.trans H; rw [hy364]; with_reducible exact H2_) | (have H2_ := (Option.bind_some _ _).symm.trans H; with_reducible exact H2_) | with_reducible exact H | (rw [hy364]; exact H) | exact H
                   have Ny364 := aM hy364
                   clear hy364
                   have H' := aM H
                   clear H
                   try go_wp2
                   have n0_ := aM (Kd.R_drew HO_361001.out)
                   have n1_ := aM (Kd.N_drew HO_361002.out)
                   have n2_ := aM (Kd.N_drew HO_361003.out)
                   have n3_ := aM (blk_drew BK343.out)
                   have n4_ := aM (blk_drew BK344.out)
                   have n5_ := aM (blk_drew BK360.out)
                   have n6_ := aM (below_drew1 HB.out)
                   clear HO_361001
                   clear HO_361002
                   clear HO_361003
                   clear BK343
                   clear BK344
                   clear BK360
                   clear HB
                   have HO_361001 := n0_
                   have HO_361002 := n1_
                   have HO_361003 := n2_
                   have BK343 := n3_
                   have BK344 := n4_
                   have BK360 := n5_
                   have HB := n6_
                   clear n0_ n1_ n2_ n3_ n4_ n5_ n6_
                   obtain ⟨Ao54, co54, eo54⟩ := Kd.N_slice HO_361003.out
                   (first | subst eo54 | (injection eo54 with f1_ f2_ f3_; have f4_ := f1_.symm; have f5_ := f3_.symm; clear f1_ f2_ f3_; subst f4_; subst f5_))
                   have p363 : 0 ≤ (x47_3 : Int) := of_decide_eq_true (by first | (with_reducible assumption) | assumption)
                   have q363 : x47_3 < (x361003_3.length : Int) := of_decide_eq_true (by first | (with_reducible assumption) | assumption)
                   obtain ⟨ad363, A363_1, c363_1, e363, hx363_0, hx363_1, hl363_1, hi363_1⟩ := at_T64 (Kd.N_reads' HO_361003.out).2.2 x47_3 p363 q363
                   cases e363
                   obtain ⟨ce363, hce363, hMe363, hcc363⟩ := Kd.N_get HO_361003.out z64 x47_3 p363 (by first | exact q363 | exact of_decide_eq_true (by first | (with_reducible assumption) | assumption) | (have e_ := (Kd.N_reads' HO_361003.out).1; omega))
                   obtain ⟨ua363_1, uc363_1, rfl, ul363_1, ge363_1⟩ := k64_openF hMe363
                   have hv363_1 := hcc363 1 _ rfl
                   rw [add_field _ _ 1 (by omega)] at hv363_1
                   replace hv363_1 := Option.some.inj (hv363_1.symm.trans hx363_1)
                   injection hv363_1 with hva_ hvn_ hvc_
                   rw [hva_] at ge363_1
                   rw [hvc_] at ul363_1
                   have HL363_1 := aM (show Kd.V k76 76 _ w.heap.size _ _ ((rd_T64 x361003_3 x47_3).f1) from Kd.V_mk ul363_1 ge363_1)
                   clear hva_ hvn_ hvc_ ge363_1 ul363_1
                   clear hcc363 hce363
                   have HR363_1 := aM hi363_1
                   have HC363_1 := aM hl363_1
                   clear hi363_1 hl363_1
                   replace p363 := eq_true p363
                   replace q363 := eq_true q363
                   have p52 : 0 ≤ (x47_3 : Int) := of_decide_eq_true (by first | (with_reducible assumption) | assumption)
                   have q52 : (x47_3 : Int) < ((x361003_3.length : Int) : Int) := of_decide_eq_true (by first | (with_reducible assumption) | assumption)
                   obtain ⟨go52, co52, eo52, gb52, gl52, cl52, HG52⟩ := Kd.N_form HO_361003.out (by omega)
                   (first | cases eo52 | (injection eo52 with ea_ en_ ec_; (first | subst ea_ | (injection ea_ with ea_; subst ea_)); subst ec_; clear en_))
                   have GB52 := aM gb52
                   have GG52 := aM HG52
                   clear gb52 gl52 HG52
                   (first | simp only [add_plain] at hx363_0 | skip)
                   (first | simp only [add_plain] at hx363_1 | skip)
                   obtain ⟨ce52, hcl52, hM52, hcc52, hfr52⟩ := Kd.N_elem HO_361003.out z64 (x47_3 : Int) p52 q52
                   obtain ⟨ua52_1, uc52_1, rfl, ul52_1, ge52_1⟩ := k64_openF hM52
                   have hx52_0 : World.cell? _ ⟨go52, (x47_3 : Int).toNat * 2, none⟩ = some (.bool ((rd_T64 x361003_3 x47_3).f0)) := hcc52 0 _ rfl
                   have hx52_1 : World.cell? _ ⟨go52, (x47_3 : Int).toNat * 2 + 1, none⟩ = some (.slice ua52_1 ((rd_T64 x361003_3 x47_3).f1).length uc52_1) := hcc52 1 _ rfl
                   have hf52_0 : World.frozen? _ ⟨go52, (x47_3 : Int).toNat * 2, none⟩ = false := hfr52 0
                   have hf52_1 : World.frozen? _ ⟨go52, (x47_3 : Int).toNat * 2 + 1, none⟩ = false := hfr52 1
                   clear hcl52 hcc52 hfr52 hM52
                   replace p52 := eq_true p52
                   replace q52 := eq_true q52
                   have HX55 := aM (show Kd.N k64 64 _ w.heap.size (fun k_ => some k_ ≠ (.slice Ao36 t349.length co36 : Value).ownBlock ∧ some k_ ≠ (u361002 : Value).ownBlock ∧ k_ ≠ gb343 ∧ k_ ≠ gb344 ∧ k_ ≠ gb360) (.slice (some ⟨go52, 0, none⟩) x361003_3.length co54) x361003_3 from (Kd.N_mono (HO_361003.out) (fun k_ hk => ⟨hk.1, ⟨hk.2.1, ⟨hk.2.2.1, ⟨hk.2.2.2.1, hk.2.2.2.2⟩⟩⟩⟩)))
                   obtain ⟨ce55, hcl55, hM55, hcc55, hfr55⟩ := Kd.N_elem HX55.out z64 (x47_3 : Int) (of_decide_eq_true (by first | (with_reducible assumption) | assumption)) (by have h_ : (x47_3 : Int) < ((x361003_3.length : Int) : Int) := of_decide_eq_true (by first | (with_reducible assumption) | assumption); first | exact h_ | (have e_ := (Kd.N_reads' HO_361003.out).1; omega) | simpa using h_)
                   obtain ⟨ua55_1, uc55_1, rfl, ul55_1, ge55_1⟩ := k64_openF hM55
                   have HP55 := (Kd.N_seg HX55.out (x47_3 : Int) (of_decide_eq_true (by first | (with_reducible assumption) | assumption)) (by have h_ : (x47_3 : Int) < ((x361003_3.length : Int) : Int) := of_decide_eq_true (by first | (with_reducible assumption) | assumption); first | exact h_ | (have e_ := (Kd.N_reads' HO_361003.out).1; omega) | simpa using h_) (seg := [.bool (!((rd_T64 x361003_3 x47_3).f0))]) (j := 0) hcl55 hcc55 (show 1 ≤ 2 from by decide) (x' := (⟨!((rd_T64 x361003_3 x47_3).f0), (rd_T64 x361003_3 x47_3).f1⟩ : S64)) (k64_mkF _ _ (⟨!((rd_T64 x361003_3 x47_3).f0), (rd_T64 x361003_3 x47_3).f1⟩ : S64) ul55_1 ge55_1) (fun _ hk => hk)).1
                   rw [← Ny364.out] at HP55
                   have HQ55 := aM HP55
                   clear hcl55 hcc55 hfr55 hM55 HP55
                   refine start_ (n := 13) (S := fun w' => w'.cell? ⟨gb360, 0, none⟩ = some (.int .i64 t348) ∧ w'.cell? ⟨gb360, 1, none⟩ = some (.slice Ao36 t349.length co36) ∧ w'.cell? ⟨gb360, 2, none⟩ = some (u361002) ∧ w'.cell? ⟨gb360, 3, none⟩ = some (.slice (some ⟨go52, 0, none⟩) x361003_3.length co54) ∧ w'.cell? ⟨gb360, 4, none⟩ = some (.int .u32 t358) ∧ w'.cell? ⟨gb360, 5, none⟩ = some (.int .u32 t359) ∧ w'.cell? ⟨go52, ((x47_3).toNat * 2), none⟩ = some (.bool ((rd_T64 x361003_3 x47_3).f0)) ∧ w'.cell? ⟨go52, ((x47_3).toNat * 2) + 1, none⟩ = some (.slice A363_1 ((rd_T64 x361003_3 x47_3).f1).length c363_1)) (ds := [12]) (tf 0 13) (by kernel_rfl) rfl rfl ⟨(blk_cell BK360.out 0).trans rfl, (blk_cell BK360.out 1).trans rfl, (blk_cell BK360.out 2).trans rfl, (blk_cell BK360.out 3).trans rfl, (blk_cell BK360.out 4).trans rfl, (blk_cell BK360.out 5).trans rfl, hx363_0, hx363_1⟩ (fun hHeld => ?_); refine with_tabW dragomanlaw11_CondDenies.tab14 dragomanlaw11_CondDenies.bits14 (fun HT_ HW_ => ?_)
                   generalize wr.drew = w53 at HO_361001 HO_361002 HO_361003 BK343 BK344 BK360 HB GG52 HL363_1 HQ55 HR363_1 hf52_0 hf52_1 hx363_0 hx363_1 hx52_0 hx52_1 hHeld ⊢
                   refine pure_ (i := 0) (N := some 50) (v := ?_) (a' := ?_) (tf 1 12) rfl rfl (any_of HT_.out (by kernel_rfl)) (fun _ _ _ h => h) (Or.inl ⟨by rfl, ?_⟩) ?_ ?_
                   rotate_left
                   · intro w'
                     go_simp
                     with_reducible rfl
                   rotate_left
                   · simp only [Act.put, sT, sZ, sS, i64_w, i32_w]
                     rfl
                   refine pure_ (i := 2) (N := some 52) (v := ?_) (a' := ?_) #[true, false, true, false, false, false, false, false, false, false, false, false, false] rfl rfl (any_of HT_.out (by kernel_rfl)) (fun _ _ _ h => h) (Or.inl ⟨by rfl, ?_⟩) ?_ ?_
                   rotate_left
                   · intro w'
                     go_simp
                     with_reducible rfl
                   rotate_left
                   · simp only [Act.put, sT, sZ, sS, i64_w, i32_w]
                     rfl
                   refine pure_ (i := 3) (N := some 53) (v := ?_) (a' := ?_) #[true, false, true, true, false, false, false, false, false, false, false, false, false] rfl rfl (any_of HT_.out (by kernel_rfl)) (fun _ _ _ h => h) (Or.inl ⟨by rfl, ?_⟩) ?_ ?_
                   rotate_left
                   · intro w'
                     go_simp
                     with_reducible rfl
                   rotate_left
                   · simp only [Act.put, sT, sZ, sS, i64_w, i32_w]
                     rfl
                   refine pure_ (i := 5) (N := some 55) (v := ?_) (a' := ?_) #[true, false, true, true, false, true, false, false, false, false, false, false, false] rfl rfl (any_of HT_.out (by kernel_rfl)) (fun _ _ _ h => h) (Or.inl ⟨by rfl, ?_⟩) ?_ ?_
                   rotate_left
                   · intro w'
                     go_simp
                     with_reducible rfl
                   rotate_left
                   · simp only [Act.put, sT, sZ, sS, i64_w, i32_w]
                     rfl
                   refine take_ (i := 1) (N := some 51) (v := ?_) (a' := ?_) #[true, true, true, true, false, true, false, false, false, false, false, false, false] rfl rfl (take_ofW HT_.out HW_.out (by kernel_rfl)) (fun _ _ _ h => h) (Or.inl ⟨by rfl, ?_⟩) hHeld ?_ ?_
                   rotate_left
                   · rintro w' ⟨s0, s1, s2, s3, s4, s5, s6, s7⟩
                     go_simp
                     with_reducible rfl
                   rotate_left
                   · simp only [Act.put, sT, sZ, sS, i64_w, i32_w]
                     rfl
                   refine take_ (i := 4) (N := some 54) (v := ?_) (a' := ?_) (tf 6 7) rfl rfl (take_ofW HT_.out HW_.out (by kernel_rfl)) (fun _ _ _ h => h) (Or.inl ⟨by rfl, ?_⟩) hHeld ?_ ?_
                   rotate_left
                   · rintro w' ⟨s0, s1, s2, s3, s4, s5, s6, s7⟩
                     go_simp
                     with_reducible rfl
                   rotate_left
                   · simp only [Act.put, sT, sZ, sS, i64_w, i32_w]
                     rfl
                   refine pure_ (i := 6) (N := some 56) (v := ?_) (a' := ?_) (tf 7 6) rfl rfl (any_of HT_.out (by kernel_rfl)) (fun _ _ _ h => h) (Or.inl ⟨by rfl, ?_⟩) ?_ ?_
                   rotate_left
                   · intro w'
                     go_simp
                     with_reducible rfl
                   rotate_left
                   · simp only [Act.put, sT, sZ, sS, i64_w, i32_w]
                     rfl
                   refine pure_ (i := 7) (N := some 57) (v := ?_) (a' := ?_) (tf 8 5) rfl rfl (any_of HT_.out (by kernel_rfl)) (fun _ _ _ h => h) (Or.inl ⟨by rfl, ?_⟩) ?_ ?_
                   rotate_left
                   · intro w'
                     go_simp
                     with_reducible rfl
                   rotate_left
                   · simp only [Act.put, sT, sZ, sS, i64_w, i32_w]
                     rfl
                   refine take_ (i := 8) (N := some 58) (v := ?_) (a' := ?_) (tf 9 4) rfl rfl (take_ofW HT_.out HW_.out (by kernel_rfl)) (fun _ _ _ h => h) (Or.inl ⟨by rfl, ?_⟩) hHeld ?_ ?_
                   rotate_left
                   · rintro w' ⟨s0, s1, s2, s3, s4, s5, s6, s7⟩
                     go_simp
                     with_reducible rfl
                   rotate_left
                   · simp only [Act.put, sT, sZ, sS, i64_w, i32_w]
                     rfl
                   refine pure_ (i := 9) (N := some 59) (v := ?_) (a' := ?_) (tf 10 3) rfl rfl (any_of HT_.out (by kernel_rfl)) (fun _ _ _ h => h) (Or.inl ⟨by rfl, ?_⟩) ?_ ?_
                   rotate_left
                   · intro w'
                     go_simp
                     with_reducible rfl
                   rotate_left
                   · simp only [Act.put, sT, sZ, sS, i64_w, i32_w]
                     rfl
                   refine pure_ (i := 10) (N := some 60) (v := ?_) (a' := ?_) (tf 11 2) rfl rfl (any_of HT_.out (by kernel_rfl)) (fun _ _ _ h => h) (Or.inl ⟨by rfl, ?_⟩) ?_ ?_
                   rotate_left
                   · intro w'
                     go_simp
                     with_reducible rfl
                   rotate_left
                   · simp only [Act.put, sT, sZ, sS, i64_w, i32_w]
                     rfl
                   refine pure_ (i := 11) (N := some 61) (v := ?_) (a' := ?_) (tf 12 1) rfl rfl (any_of HT_.out (by kernel_rfl)) (fun _ _ _ h => h) (Or.inl ⟨by rfl, ?_⟩) ?_ ?_
                   rotate_left
                   · intro w'
                     go_simp
                     with_reducible rfl
                   rotate_left
                   · simp only [Act.put, sT, sZ, sS, i64_w, i32_w]
                     rfl
                   refine last_ (i := 12) (N := none) (tf 13 0) rfl rfl (one_of HT_.out (by kernel_rfl)) (by decide) (fun K hK => ?_)
                   refine skip_ (w1 := ?_) (by rfl) rfl ?_ ?_
                   rotate_left
                   · go_simp
                     rfl
                   refine hK.out _ _ ?_
                   clear hK K
                   refine done_ (done_of HT_.out (by kernel_rfl)) ?_
                   try go_wp2
                   go_roundg k3
                   case measure => have := HJ4.out; have := HK2.out; have := HK3.out; omega
                   case rel => exact ⟨(wrap64 (x47_3 + 1)), (y364), (.slice (some ⟨go52, 0, none⟩) x361003_3.length co54), (by first | rfl | (simp; done) | (simp [*]; done)), H', ⟨by have := HJ4.out; have := HK2.out; have := HK3.out; omega⟩, ⟨by (with_reducible repeat (first | apply kA | apply kN | apply kD)); exact Kd.R_mono (Kd.R_far (p := ⟨go52, (x47_3 : Int).toNat * 2, none⟩) (Kd.R_types HO_361001.out GG52.out (by decide)) (fun _ hk => hk.2) (.bool (!((rd_T64 x361003_3 x47_3).f0)))) (fun _ hk => trivial)⟩, ⟨by (with_reducible repeat (first | apply Kd.N_alloc | apply Kd.N_drewN | apply Kd.N_drew)); exact Kd.N_mono (Kd.N_far (p := ⟨go52, (x47_3 : Int).toNat * 2, none⟩) (Kd.N_mono HO_361002.out (fun k_ hk => (⟨hk, fun e_ => hk.2.1 (by rw [e_]; rfl)⟩ : _ ∧ k_ ≠ go52))) (fun _ hk => hk.2) (.bool (!((rd_T64 x361003_3 x47_3).f0)))) (fun _ hk => ⟨hk.1.1, ⟨hk.1.2.1, ⟨hk.1.2.2.1, ⟨hk.1.2.2.2.1, hk.1.2.2.2.2⟩⟩⟩⟩)⟩, ⟨by (with_reducible repeat (first | apply Kd.N_alloc | apply Kd.N_drewN | apply Kd.N_drew)); exact HQ55.out⟩, ⟨by (with_reducible repeat (first | apply bkN | apply bkD | apply bkA)); refine blk_far ?_ (by have h_ := Kd.N_away HO_361003.out (fun _ hk => hk.2.2.1); intro e_; exact h_ (by rw [e_]; rfl)) _; (with_reducible repeat (first | apply bkN | apply bkD | apply bkA)); exact BK343.out⟩, ⟨by (with_reducible repeat (first | apply bkN | apply bkD | apply bkA)); refine blk_far ?_ (by have h_ := Kd.N_away HO_361003.out (fun _ hk => hk.2.2.2.1); intro e_; exact h_ (by rw [e_]; rfl)) _; (with_reducible repeat (first | apply bkN | apply bkD | apply bkA)); exact BK344.out⟩, ⟨by (with_reducible repeat (first | apply bkN | apply bkD | apply bkA)); refine blk_far ?_ (by have h_ := Kd.N_away HO_361003.out (fun _ hk => hk.2.2.2.2); intro e_; exact h_ (by rw [e_]; rfl)) _; (with_reducible repeat (first | apply bkN | apply bkD | apply bkA)); exact BK360.out⟩, ⟨by repeat (first | (with_reducible first | exact HB.out | apply blA | apply blN | apply blD | refine bS ?_ GB52.out | refine bS ?_ GE343.out | refine bS ?_ GE344.out | refine bS ?_ GE360.out) | exact HB.out)⟩⟩
                 · rw [if_neg c51] at H
                   exact absurd H (by simp)
               · rw [if_neg c50] at H
                 exact absurd H (by simp)
             · rw [if_neg c49] at H
               have c49b0 : decide (x47_3 < (t355.length : Int)) = false := decide_eq_false c49
               clear c49
               obtain ⟨y365, hy365⟩ : ∃ y_ : List (S66), y_ = (([(⟨0, 4294967295⟩ : S66)] : List (S66))) := ⟨_, rfl⟩
               replace H : (if x361002_2.length < 2199023255552 then (if x361003_3.length < 4398046511104 then ((cond_TakesPath.f k3 (x361002_2 ++ [(⟨false, (⟨4, ([] : List (S66)), (([(⟨1, y365, ([] : List (S25))⟩ : S25)] : List (S25)))⟩ : S25)⟩ : S61)]) l1_2).bind fun t378 => ((cond_TakesPath.f k3 l0_2 l1_2).bind fun t379 => (if (t378 != t379) = true then ((cond_TakesComms.f (x361003_3 ++ [(⟨false, ([] : List (S76))⟩ : S64)]) l1_3).bind fun t380 => ((cond_TakesComms.f l0_3 l1_3).bind fun t381 => (some (t380 != t381)))) else (none)))) else (none)) else (none)) = some r := by first | (rw [hy365]; with_reducible exact H) | (have H2_ := (Option.bind_some _ _).symm.trans H; rw [hy365]; with_reducible exact H2_) | (have H2_ := (Option.bind_some _ _).symm.trans H; with_reducible exact H2_) | with_reducible exact H | (rw [hy365]; exact H) | exact H
               have Ny365 := aM hy365
               clear hy365
               obtain ⟨y368, hy368⟩ : ∃ y_ : List (S25), y_ = (([(⟨1, y365, ([] : List (S25))⟩ : S25)] : List (S25))) := ⟨_, rfl⟩
               replace H : (if x361002_2.length < 2199023255552 then (if x361003_3.length < 4398046511104 then ((cond_TakesPath.f k3 (x361002_2 ++ [(⟨false, (⟨4, ([] : List (S66)), y368⟩ : S25)⟩ : S61)]) l1_2).bind fun t378 => ((cond_TakesPath.f k3 l0_2 l1_2).bind fun t379 => (if (t378 != t379) = true then ((cond_TakesComms.f (x361003_3 ++ [(⟨false, ([] : List (S76))⟩ : S64)]) l1_3).bind fun t380 => ((cond_TakesComms.f l0_3 l1_3).bind fun t381 => (some (t380 != t381)))) else (none)))) else (none)) else (none)) = some r := by first | (rw [hy368]; with_reducible exact H) | (have H2_ := (Option.bind_some _ _).symm.trans H; rw [hy368]; with_reducible exact H2_) | (have H2_ := (Option.bind_some _ _).symm.trans H; with_reducible exact H2_) | with_reducible exact H | (rw [hy368]; exact H) | exact H
               have Ny368 := aM hy368
               clear hy368
               by_cases c56 : x361002_2.length < 2199023255552
               · rw [if_pos c56] at H
                 have LMc56 := aM c56
                 clear c56
                 obtain ⟨y372, hy372⟩ : ∃ y_ : List (S61), y_ = (x361002_2 ++ [(⟨false, (⟨4, ([] : List (S66)), y368⟩ : S25)⟩ : S61)]) := ⟨_, rfl⟩
                 replace H : (if x361003_3.length < 4398046511104 then ((cond_TakesPath.f k3 y372 l1_2).bind fun t378 => ((cond_TakesPath.f k3 l0_2 l1_2).bind fun t379 => (if (t378 != t379) = true then ((cond_TakesComms.f (x361003_3 ++ [(⟨false, ([] : List (S76))⟩ : S64)]) l1_3).bind fun t380 => ((cond_TakesComms.f l0_3 l1_3).bind fun t381 => (some (t380 != t381)))) else (none)))) else (none)) = some r := by first | (rw [hy372]; with_reducible exact H) | (have H2_ := (Option.bind_some _ _).symm.trans H; rw [hy372]; with_reducible exact H2_) | (have H2_ := (Option.bind_some _ _).symm.trans H; with_reducible exact H2_) | with_reducible exact H | (rw [hy372]; exact H) | exact H
                 have Ny372 := aM hy372
                 clear hy372
                 by_cases c57 : x361003_3.length < 4398046511104
                 · rw [if_pos c57] at H
                   have LMc57 := aM c57
                   clear c57
                   obtain ⟨y375, hy375⟩ : ∃ y_ : List (S64), y_ = (x361003_3 ++ [(⟨false, ([] : List (S76))⟩ : S64)]) := ⟨_, rfl⟩
                   replace H : ((cond_TakesPath.f k3 y372 l1_2).bind fun t378 => ((cond_TakesPath.f k3 l0_2 l1_2).bind fun t379 => (if (t378 != t379) = true then ((cond_TakesComms.f y375 l1_3).bind fun t380 => ((cond_TakesComms.f l0_3 l1_3).bind fun t381 => (some (t380 != t381)))) else (none)))) = some r := by first | (rw [hy375]; with_reducible exact H) | (have H2_ := (Option.bind_some _ _).symm.trans H; rw [hy375]; with_reducible exact H2_) | (have H2_ := (Option.bind_some _ _).symm.trans H; with_reducible exact H2_) | with_reducible exact H | (rw [hy375]; exact H) | exact H
                   have Ny375 := aM hy375
                   clear hy375
                   replace H := Option.bind_eq_some_iff.mp H
                   obtain ⟨t378, A580, H⟩ := H
                   replace H : ((cond_TakesPath.f k3 l0_2 l1_2).bind fun t379 => (if (t378 != t379) = true then ((cond_TakesComms.f y375 l1_3).bind fun t380 => ((cond_TakesComms.f l0_3 l1_3).bind fun t381 => (some (t380 != t381)))) else (none))) = some r := H
                   have A58 := aM A580
                   clear A580
                   replace H := Option.bind_eq_some_iff.mp H
                   obtain ⟨t379, A590, H⟩ := H
                   replace H : (if (t378 != t379) = true then ((cond_TakesComms.f y375 l1_3).bind fun t380 => ((cond_TakesComms.f l0_3 l1_3).bind fun t381 => (some (t380 != t381)))) else (none)) = some r := H
                   have A59 := aM A590
                   clear A590
                   by_cases c60 : (t378 != t379) = true
                   · rw [if_pos c60] at H
                     have c60b0 : (t378 != t379) = true := c60
                     (try (have c60b1 : decide (t378 = t379) = false := by simpa using c60))
                     (try (have c60b2 : (t378 == t379) = false := by simpa using c60))
                     (try (have c60b3 : ¬ (t378 = t379) := by simpa using c60))
                     clear c60
                     replace H := Option.bind_eq_some_iff.mp H
                     obtain ⟨t380, A610, H⟩ := H
                     replace H : ((cond_TakesComms.f l0_3 l1_3).bind fun t381 => (some (t380 != t381))) = some r := H
                     have A61 := aM A610
                     clear A610
                     replace H := Option.bind_eq_some_iff.mp H
                     obtain ⟨t381, A620, H⟩ := H
                     replace H : (some (t380 != t381)) = some r := H
                     have A62 := aM A620
                     clear A620
                     obtain rfl := Option.some.inj H
                     try go_wp2_with (first | ((with_reducible refine gate_dst (N := 64) rfl ?_); (try (refine gate_guard (by rfl) ?_; dsimp only)); refine Kd.R_lit k66 _ 66 ?hg (N := 64) ?hd (xs := ([(⟨0, 4294967295⟩ : S66)] : List (S66))) (inner := [.int .u32 0, .int .u32 4294967295]) (ok := fun _ => True) (okp := fun _ => True) ?hr ?hp (fun _ hk => hk) trivial (Below.refl _ _) (Nat.le_refl _) (by simp) ?_; (case hd => rfl); (case hg => rfl); (case hr => first | (go_simp; done) | (go_simp; rfl)); (case hp => exact (Reps.c2 (show Kd.M k66 _ _ _ (⟨0, 4294967295⟩ : S66) [.int .u32 0, .int .u32 4294967295] from (k66_mkM _ _ _ (⟨0, 4294967295⟩ : S66) )) (Reps.none _ _))); intro v366 w63 ho64 hb hg_ hnew_; clear hg_ hnew_; (first | rw [← Ny365.out] at ho64 | (simp only [Int.reduceToNat] at ho64; rw [← Ny365.out] at ho64)); have n0_ := aM (Kd.R_below (uk_ HO_361001.out) hb); have n1_ := aM (Kd.N_elder' (by (with_reducible repeat (first | apply Kd.N_alloc | apply Kd.N_drewN | apply Kd.N_drew)); exact HO_361002.out) (Kd.R_base ho64) hb); have n2_ := aM (Kd.N_elder' (by (with_reducible repeat (first | apply Kd.N_alloc | apply Kd.N_drewN | apply Kd.N_drew)); exact HO_361003.out) (Kd.R_base ho64) hb); have n3_ := aM (Kd.R_lower ho64 (below_size (by repeat (first | (with_reducible first | exact HB.out | apply blA | apply blN | apply blD | refine bS ?_ GE343.out | refine bS ?_ GE344.out | refine bS ?_ GE360.out) | exact HB.out)))); have n4_ := aM (blk_below (g := gb343) (o := .cells #[.int .i64 a0_0, .slice A0_1 l0_1.length c0_1, .slice A0_2 l0_2.length c0_2, .slice A0_3 l0_3.length c0_3, .int .u32 a0_4, .int .u32 a0_5] 46 (0, 0)) (up_ BK343.out) hb); have n5_ := aM (blk_below (g := gb344) (o := .cells #[.int .u32 a1_0, .int .i64 a1_1, .slice A1_2 l1_2.length c1_2, .slice A1_3 l1_3.length c1_3, .int .u32 a1_4, .int .u32 a1_5, .int .i64 a1_6, .int .u32 a1_7] 50 (0, 0)) (up_ BK344.out) hb); have n6_ := aM (blk_below (g := gb360) (o := .cells #[.int .i64 t348, .slice Ao36 t349.length co36, u361002, u361003, .int .u32 t358, .int .u32 t359] 46 (0, 0)) (up_ BK360.out) hb); have n7_ := aM (below_step (by repeat (first | (with_reducible first | exact HB.out | apply blA | apply blN | apply blD | refine bS ?_ GE343.out | refine bS ?_ GE344.out | refine bS ?_ GE360.out) | exact HB.out)) hb); clear HO_361001; clear HO_361002; clear HO_361003; clear BK343; clear BK344; clear BK360; clear HB; have HO_361001 := n0_; have HO_361002 := n1_; have HO_361003 := n2_; have HO367 := n3_; have BK343 := n4_; have BK344 := n5_; have BK360 := n6_; have HB := n7_; clear n0_ n1_ n2_ n3_ n4_ n5_ n6_ n7_; clear hb ho64; obtain ⟨Ao65, co65, eo65⟩ := Kd.R_slice HO367.out; subst eo65) | ((with_reducible refine gate_dst (N := 66) rfl ?_); (try (refine gate_guard (by rfl) ?_; dsimp only)); refine Kd.N_lit k25 _ 25 ?hg (N' := 66) ?hd (xs := ([(⟨1, y365, ([] : List (S25))⟩ : S25)] : List (S25))) (inner := [.int .i64 1, .slice Ao65 y365.length co65, .slice none 0 0]) (ok := (fun k_ => some k_ ≠ (.slice Ao36 t349.length co36 : Value).ownBlock ∧ some k_ ≠ (u361002 : Value).ownBlock ∧ some k_ ≠ (u361003 : Value).ownBlock ∧ k_ ≠ gb343 ∧ k_ ≠ gb344 ∧ k_ ≠ gb360)) (okp := (fun k_ => some k_ ≠ (.slice Ao36 t349.length co36 : Value).ownBlock ∧ some k_ ≠ (u361002 : Value).ownBlock ∧ some k_ ≠ (u361003 : Value).ownBlock ∧ k_ ≠ gb343 ∧ k_ ≠ gb344 ∧ k_ ≠ gb360)) ?hr ?hp (fun _ hk => hk) ((show ∀ k_, w63.heap.size ≤ k_ → (fun k_ => some k_ ≠ (.slice Ao36 t349.length co36 : Value).ownBlock ∧ some k_ ≠ (u361002 : Value).ownBlock ∧ some k_ ≠ (u361003 : Value).ownBlock ∧ k_ ≠ gb343 ∧ k_ ≠ gb344 ∧ k_ ≠ gb360) k_ from fun k_ hk => ⟨Kd.fresh' (Kd.R_lt (uk_ HO_361001.out)) k_ hk, Kd.fresh' (Kd.N_lt (by (with_reducible repeat (first | apply Kd.N_alloc | apply Kd.N_drewN | apply Kd.N_drew)); exact HO_361002.out)) k_ hk, Kd.fresh' (Kd.N_lt (by (with_reducible repeat (first | apply Kd.N_alloc | apply Kd.N_drewN | apply Kd.N_drew)); exact HO_361003.out)) k_ hk, Kd.freshB (g := gb343) (o := .cells #[.int .i64 a0_0, .slice A0_1 l0_1.length c0_1, .slice A0_2 l0_2.length c0_2, .slice A0_3 l0_3.length c0_3, .int .u32 a0_4, .int .u32 a0_5] 46 (0, 0)) (up_ BK343.out) k_ hk, Kd.freshB (g := gb344) (o := .cells #[.int .u32 a1_0, .int .i64 a1_1, .slice A1_2 l1_2.length c1_2, .slice A1_3 l1_3.length c1_3, .int .u32 a1_4, .int .u32 a1_5, .int .i64 a1_6, .int .u32 a1_7] 50 (0, 0)) (up_ BK344.out) k_ hk, Kd.freshB (g := gb360) (o := .cells #[.int .i64 t348, .slice Ao36 t349.length co36, u361002, u361003, .int .u32 t358, .int .u32 t359] 46 (0, 0)) (up_ BK360.out) k_ hk⟩) _ (Nat.le_refl _)) (Below.refl _ _) (Nat.le_refl _) (by simp) ?_; (case hd => rfl); (case hg => rfl); (case hr => first | (go_simp; done) | (go_simp; rfl)); (case hp => exact (Reps.c3 (show Kd.FK k25 _ _ (⟨1, y365, ([] : List (S25))⟩ : S25) [.int .i64 1, .slice Ao65 y365.length co65, .slice none 0 0] from (k25_mkF _ _ (⟨1, y365, ([] : List (S25))⟩ : S25) (Kd.R_reads' (Kd.R_mono (ok' := (fun k_ => some k_ ≠ (.slice Ao36 t349.length co36 : Value).ownBlock ∧ some k_ ≠ (u361002 : Value).ownBlock ∧ some k_ ≠ (u361003 : Value).ownBlock ∧ k_ ≠ gb343 ∧ k_ ≠ gb344 ∧ k_ ≠ gb360)) (Kd.R_types (Kd.R_types (Kd.R_types (Kd.R_apart' (Kd.R_apart' (Kd.R_apart' (HO367.out) (Kd.R_typed HO_361001.out) (by decide)) (Kd.N_typed HO_361002.out) (by decide)) (Kd.N_typed HO_361003.out) (by decide)) BK343.out (by decide)) BK344.out (by decide)) BK360.out (by decide)) (fun k_ hk => ⟨hk.1.1.1.1.1.2, ⟨hk.1.1.1.1.2, ⟨hk.1.1.1.2, ⟨hk.1.1.2, ⟨hk.1.2, hk.2⟩⟩⟩⟩⟩))).2.1 (Kd.R_F (Kd.R_mono (ok' := (fun k_ => some k_ ≠ (.slice Ao36 t349.length co36 : Value).ownBlock ∧ some k_ ≠ (u361002 : Value).ownBlock ∧ some k_ ≠ (u361003 : Value).ownBlock ∧ k_ ≠ gb343 ∧ k_ ≠ gb344 ∧ k_ ≠ gb360)) (Kd.R_types (Kd.R_types (Kd.R_types (Kd.R_apart' (Kd.R_apart' (Kd.R_apart' (HO367.out) (Kd.R_typed HO_361001.out) (by decide)) (Kd.N_typed HO_361002.out) (by decide)) (Kd.N_typed HO_361003.out) (by decide)) BK343.out (by decide)) BK344.out (by decide)) BK360.out (by decide)) (fun k_ hk => ⟨hk.1.1.1.1.1.2, ⟨hk.1.1.1.1.2, ⟨hk.1.1.1.2, ⟨hk.1.1.2, ⟨hk.1.2, hk.2⟩⟩⟩⟩⟩))) (Nat.le_refl _) (Kd.F_nil _ _ _))) (Reps.none _ _))); intro v369 w66 ho67 hb hg_ hnew_; clear hg_ hnew_; (first | rw [← Ny368.out] at ho67 | (simp only [Int.reduceToNat] at ho67; rw [← Ny368.out] at ho67)); have n0_ := aM (Kd.R_below (uk_ HO_361001.out) hb); have n1_ := aM (Kd.N_elder' (by (with_reducible repeat (first | apply Kd.N_alloc | apply Kd.N_drewN | apply Kd.N_drew)); exact HO_361002.out) (Kd.N_base ho67) hb); have n2_ := aM (Kd.N_elder' (by (with_reducible repeat (first | apply Kd.N_alloc | apply Kd.N_drewN | apply Kd.N_drew)); exact HO_361003.out) (Kd.N_base ho67) hb); have n3_ := aM (Kd.N_lower ho67 (below_size (by repeat (first | (with_reducible first | exact HB.out | apply blA | apply blN | apply blD | refine bS ?_ GE343.out | refine bS ?_ GE344.out | refine bS ?_ GE360.out) | exact HB.out)))); have n4_ := aM (blk_below (g := gb343) (o := .cells #[.int .i64 a0_0, .slice A0_1 l0_1.length c0_1, .slice A0_2 l0_2.length c0_2, .slice A0_3 l0_3.length c0_3, .int .u32 a0_4, .int .u32 a0_5] 46 (0, 0)) (up_ BK343.out) hb); have n5_ := aM (blk_below (g := gb344) (o := .cells #[.int .u32 a1_0, .int .i64 a1_1, .slice A1_2 l1_2.length c1_2, .slice A1_3 l1_3.length c1_3, .int .u32 a1_4, .int .u32 a1_5, .int .i64 a1_6, .int .u32 a1_7] 50 (0, 0)) (up_ BK344.out) hb); have n6_ := aM (blk_below (g := gb360) (o := .cells #[.int .i64 t348, .slice Ao36 t349.length co36, u361002, u361003, .int .u32 t358, .int .u32 t359] 46 (0, 0)) (up_ BK360.out) hb); have n7_ := aM (below_step (by repeat (first | (with_reducible first | exact HB.out | apply blA | apply blN | apply blD | refine bS ?_ GE343.out | refine bS ?_ GE344.out | refine bS ?_ GE360.out) | exact HB.out)) hb); clear HO_361001; clear HO_361002; clear HO_361003; clear BK343; clear BK344; clear BK360; clear HB; clear HO367; have HO_361001 := n0_; have HO_361002 := n1_; have HO_361003 := n2_; have HO370 := n3_; have BK343 := n4_; have BK344 := n5_; have BK360 := n6_; have HB := n7_; clear n0_ n1_ n2_ n3_ n4_ n5_ n6_ n7_; clear hb ho67; obtain ⟨Ao68, co68, eo68⟩ := Kd.N_slice HO370.out; subst eo68) | ((with_reducible refine gate_dst (N := 8) rfl ?_); (try (refine gate_guard (by rfl) ?_; dsimp only)); refine box_event ?hg (N := 8) ?hd (cs := #[.int .i64 0, .slice none 0 0, .slice none 0 0]) (t := 25) ?hr ?_; (case hd => rfl); (case hg => rfl); (case hr => first | (go_simp; done) | (go_simp; rfl)); intro gb371 hg w69 hbox hb; have n0_ := aM (Kd.R_below (uk_ HO_361001.out) hb); have n1_ := aM (Kd.N_below (Kd.N_elderB (by (with_reducible repeat (first | apply Kd.N_alloc | apply Kd.N_drewN | apply Kd.N_drew)); exact HO_361002.out) gb371 (Nat.le_of_eq hg.symm)) hb); have n2_ := aM (Kd.N_below (Kd.N_elderB (by (with_reducible repeat (first | apply Kd.N_alloc | apply Kd.N_drewN | apply Kd.N_drew)); exact HO_361003.out) gb371 (Nat.le_of_eq hg.symm)) hb); have n3_ := aM (Kd.N_below (Kd.N_elderB (by (with_reducible repeat (first | apply Kd.N_alloc | apply Kd.N_drewN | apply Kd.N_drew)); exact HO370.out) gb371 (Nat.le_of_eq hg.symm)) hb); have n4_ := aM (blk_below (g := gb343) (o := .cells #[.int .i64 a0_0, .slice A0_1 l0_1.length c0_1, .slice A0_2 l0_2.length c0_2, .slice A0_3 l0_3.length c0_3, .int .u32 a0_4, .int .u32 a0_5] 46 (0, 0)) (up_ BK343.out) hb); have n5_ := aM (blk_below (g := gb344) (o := .cells #[.int .u32 a1_0, .int .i64 a1_1, .slice A1_2 l1_2.length c1_2, .slice A1_3 l1_3.length c1_3, .int .u32 a1_4, .int .u32 a1_5, .int .i64 a1_6, .int .u32 a1_7] 50 (0, 0)) (up_ BK344.out) hb); have n6_ := aM (blk_below (g := gb360) (o := .cells #[.int .i64 t348, .slice Ao36 t349.length co36, u361002, u361003, .int .u32 t358, .int .u32 t359] 46 (0, 0)) (up_ BK360.out) hb); have n7_ := aM (below_step (by repeat (first | (with_reducible first | exact HB.out | apply blA | apply blN | apply blD | refine bS ?_ GE343.out | refine bS ?_ GE344.out | refine bS ?_ GE360.out) | exact HB.out)) hb); have n8_ := aM (hbox); have n9_ := aM ((by rw [hg]; exact (below_size (by repeat (first | (with_reducible first | exact HB.out | apply blA | apply blN | apply blD | refine bS ?_ GE343.out | refine bS ?_ GE344.out | refine bS ?_ GE360.out) | exact HB.out))) : w.heap.size ≤ gb371)); have n10_ := aM ((by rw [hg]; exact (below_size (by repeat (first | (with_reducible first | exact HB.out | apply blA | apply blN | apply blD | refine bS ?_ GE343.out | refine bS ?_ GE344.out | refine bS ?_ GE360.out) | exact HB.out))) : w.heap.size ≤ gb371)); have n11_ := aM ((by rw [hg]; exact Nat.ne_of_lt (blk_lt (g := gb343) (o := .cells #[.int .i64 a0_0, .slice A0_1 l0_1.length c0_1, .slice A0_2 l0_2.length c0_2, .slice A0_3 l0_3.length c0_3, .int .u32 a0_4, .int .u32 a0_5] 46 (0, 0)) (up_ BK343.out)) : gb343 ≠ gb371)); have n12_ := aM ((by rw [hg]; exact Nat.ne_of_gt (blk_lt (g := gb343) (o := .cells #[.int .i64 a0_0, .slice A0_1 l0_1.length c0_1, .slice A0_2 l0_2.length c0_2, .slice A0_3 l0_3.length c0_3, .int .u32 a0_4, .int .u32 a0_5] 46 (0, 0)) (up_ BK343.out)) : gb371 ≠ gb343)); have n13_ := aM ((by rw [hg]; exact Nat.ne_of_lt (blk_lt (g := gb344) (o := .cells #[.int .u32 a1_0, .int .i64 a1_1, .slice A1_2 l1_2.length c1_2, .slice A1_3 l1_3.length c1_3, .int .u32 a1_4, .int .u32 a1_5, .int .i64 a1_6, .int .u32 a1_7] 50 (0, 0)) (up_ BK344.out)) : gb344 ≠ gb371)); have n14_ := aM ((by rw [hg]; exact Nat.ne_of_gt (blk_lt (g := gb344) (o := .cells #[.int .u32 a1_0, .int .i64 a1_1, .slice A1_2 l1_2.length c1_2, .slice A1_3 l1_3.length c1_3, .int .u32 a1_4, .int .u32 a1_5, .int .i64 a1_6, .int .u32 a1_7] 50 (0, 0)) (up_ BK344.out)) : gb371 ≠ gb344)); have n15_ := aM ((by rw [hg]; exact Nat.ne_of_lt (blk_lt (g := gb360) (o := .cells #[.int .i64 t348, .slice Ao36 t349.length co36, u361002, u361003, .int .u32 t358, .int .u32 t359] 46 (0, 0)) (up_ BK360.out)) : gb360 ≠ gb371)); have n16_ := aM ((by rw [hg]; exact Nat.ne_of_gt (blk_lt (g := gb360) (o := .cells #[.int .i64 t348, .slice Ao36 t349.length co36, u361002, u361003, .int .u32 t358, .int .u32 t359] 46 (0, 0)) (up_ BK360.out)) : gb371 ≠ gb360)); clear HO_361001; clear HO_361002; clear HO_361003; clear HO370; clear BK343; clear BK344; clear BK360; clear HB; have HO_361001 := n0_; have HO_361002 := n1_; have HO_361003 := n2_; have HO370 := n3_; have BK343 := n4_; have BK344 := n5_; have BK360 := n6_; have HB := n7_; have BK371 := n8_; have GW371 := n9_; have GE371 := n10_; have NB343_371 := n11_; have NB371_343 := n12_; have NB344_371 := n13_; have NB371_344 := n14_; have NB360_371 := n15_; have NB371_360 := n16_; clear n0_ n1_ n2_ n3_ n4_ n5_ n6_ n7_ n8_ n9_ n10_ n11_ n12_ n13_ n14_ n15_ n16_; clear hb hbox hg; have hnb70 := NB371_343.out; have hnc70 := NB343_371.out; have hnb71 := NB371_344.out; have hnc71 := NB344_371.out; have hnb72 := NB371_360.out; have hnc72 := NB360_371.out; have hcz73_0 : w69.cell? ⟨gb371, 0, none⟩ = some (.int .i64 0) := (blk_cell BK371.out 0).trans rfl; have hcz73_1 : w69.cell? ⟨gb371, 1, none⟩ = some (.slice none 0 0) := (blk_cell BK371.out 1).trans rfl; have hcz73_2 : w69.cell? ⟨gb371, 2, none⟩ = some (.slice none 0 0) := (blk_cell BK371.out 2).trans rfl; have hfz73_0 := bF BK371.out 0; have hfz73_1 := bF BK371.out 1; have hfz73_2 := bF BK371.out 2) | ((with_reducible refine gate_store (t := 25) (p := 8) rfl ?_); refine store_event (t := 25) (p := 8) (v := ?vo_w74) (w1 := (((w69.setCell ⟨gb371, 0, none⟩ (.int .i64 4)).setCell ⟨gb371, 1, none⟩ (.slice none 0 0)).setCell ⟨gb371, 2, none⟩ (.slice Ao68 y368.length co68))) ?hg ?ho ?hn ?hr ?_; (case ho => rfl); (case hg => rfl); (case hn => rfl); (case hr => first | (go_simp; done) | (go_simp; rfl)); intro w74 hw; have n0_ : Aside0 (Kd.R k83 83 w74 w.heap.size (fun _ => True) (.slice Ao36 t349.length co36) t349) := ⟨(by rw [hw]; exact (by (with_reducible repeat (first | apply kA | apply kN | apply kD)); exact Kd.R_mono (Kd.R_far (p := ⟨gb371, 2, none⟩) (Kd.R_far (p := ⟨gb371, 1, none⟩) (Kd.R_far (p := ⟨gb371, 0, none⟩) (Kd.R_types HO_361001.out BK371.out (by decide)) (fun _ hk => hk.2) (.int .i64 4)) (fun _ hk => hk.2) (.slice none 0 0)) (fun _ hk => hk.2) (.slice Ao68 y368.length co68)) (fun _ hk => trivial)))⟩; have n1_ : Aside0 (Kd.N k61 61 w74 w.heap.size (fun k_ => some k_ ≠ (.slice Ao36 t349.length co36 : Value).ownBlock ∧ some k_ ≠ (u361003 : Value).ownBlock ∧ some k_ ≠ (.slice Ao68 y368.length co68 : Value).ownBlock ∧ k_ ≠ gb343 ∧ k_ ≠ gb344 ∧ k_ ≠ gb360 ∧ k_ ≠ gb371) u361002 x361002_2) := ⟨(by rw [hw]; exact (by (with_reducible repeat (first | apply Kd.N_alloc | apply Kd.N_drewN | apply Kd.N_drew)); exact Kd.N_mono (Kd.N_far (p := ⟨gb371, 2, none⟩) (Kd.N_far (p := ⟨gb371, 1, none⟩) (Kd.N_far (p := ⟨gb371, 0, none⟩) (Kd.N_mono HO_361002.out (fun k_ hk => (⟨hk, hk.2⟩ : _ ∧ k_ ≠ gb371))) (fun _ hk => hk.2) (.int .i64 4)) (fun _ hk => hk.2) (.slice none 0 0)) (fun _ hk => hk.2) (.slice Ao68 y368.length co68)) (fun _ hk => ⟨hk.1.1.1.1.1, ⟨hk.1.1.1.1.2.1, ⟨hk.1.1.2, ⟨hk.1.1.1.1.2.2.1, ⟨hk.1.1.1.1.2.2.2.1, ⟨hk.1.1.1.1.2.2.2.2, hk.1.2⟩⟩⟩⟩⟩⟩)))⟩; have n2_ : Aside0 (Kd.N k64 64 w74 w.heap.size (fun k_ => some k_ ≠ (.slice Ao36 t349.length co36 : Value).ownBlock ∧ some k_ ≠ (u361002 : Value).ownBlock ∧ some k_ ≠ (.slice Ao68 y368.length co68 : Value).ownBlock ∧ k_ ≠ gb343 ∧ k_ ≠ gb344 ∧ k_ ≠ gb360 ∧ k_ ≠ gb371) u361003 x361003_3) := ⟨(by rw [hw]; exact (by (with_reducible repeat (first | apply Kd.N_alloc | apply Kd.N_drewN | apply Kd.N_drew)); exact Kd.N_mono (Kd.N_far (p := ⟨gb371, 2, none⟩) (Kd.N_far (p := ⟨gb371, 1, none⟩) (Kd.N_far (p := ⟨gb371, 0, none⟩) (Kd.N_mono HO_361003.out (fun k_ hk => (⟨hk, hk.2⟩ : _ ∧ k_ ≠ gb371))) (fun _ hk => hk.2) (.int .i64 4)) (fun _ hk => hk.2) (.slice none 0 0)) (fun _ hk => hk.2) (.slice Ao68 y368.length co68)) (fun _ hk => ⟨hk.1.1.1.1.1, ⟨hk.1.1.1.1.2.1, ⟨hk.1.1.2, ⟨hk.1.1.1.1.2.2.1, ⟨hk.1.1.1.1.2.2.2.1, ⟨hk.1.1.1.1.2.2.2.2, hk.1.2⟩⟩⟩⟩⟩⟩)))⟩; have n3_ : Aside0 (Kd.N k25 25 w74 w.heap.size (fun k_ => some k_ ≠ (.slice Ao36 t349.length co36 : Value).ownBlock ∧ some k_ ≠ (u361002 : Value).ownBlock ∧ some k_ ≠ (u361003 : Value).ownBlock ∧ k_ ≠ gb343 ∧ k_ ≠ gb344 ∧ k_ ≠ gb360 ∧ k_ ≠ gb371) (.slice Ao68 y368.length co68) y368) := ⟨(by rw [hw]; exact (by (with_reducible repeat (first | apply Kd.N_alloc | apply Kd.N_drewN | apply Kd.N_drew)); exact Kd.N_mono (Kd.N_far (p := ⟨gb371, 2, none⟩) (Kd.N_far (p := ⟨gb371, 1, none⟩) (Kd.N_far (p := ⟨gb371, 0, none⟩) (Kd.N_mono HO370.out (fun k_ hk => (⟨hk, hk.2⟩ : _ ∧ k_ ≠ gb371))) (fun _ hk => hk.2) (.int .i64 4)) (fun _ hk => hk.2) (.slice none 0 0)) (fun _ hk => hk.2) (.slice Ao68 y368.length co68)) (fun _ hk => ⟨hk.1.1.1, ⟨hk.1.1.2.1, ⟨hk.1.1.2.2.1, ⟨hk.1.1.2.2.2.1, ⟨hk.1.1.2.2.2.2.1, ⟨hk.1.1.2.2.2.2.2, hk.1.2⟩⟩⟩⟩⟩⟩)))⟩; have n4_ : Aside0 (w74.heap[gb343]? = some (.cells #[.int .i64 a0_0, .slice A0_1 l0_1.length c0_1, .slice A0_2 l0_2.length c0_2, .slice A0_3 l0_3.length c0_3, .int .u32 a0_4, .int .u32 a0_5] 46 (0, 0))) := ⟨(by rw [hw]; exact (by (with_reducible repeat (first | apply bkN | apply bkD | apply bkA)); refine blk_far ?_ NB343_371.out _; (with_reducible repeat (first | apply bkN | apply bkD | apply bkA)); refine blk_far ?_ NB343_371.out _; (with_reducible repeat (first | apply bkN | apply bkD | apply bkA)); refine blk_far ?_ NB343_371.out _; (with_reducible repeat (first | apply bkN | apply bkD | apply bkA)); exact BK343.out))⟩; have n5_ : Aside0 (w74.heap[gb344]? = some (.cells #[.int .u32 a1_0, .int .i64 a1_1, .slice A1_2 l1_2.length c1_2, .slice A1_3 l1_3.length c1_3, .int .u32 a1_4, .int .u32 a1_5, .int .i64 a1_6, .int .u32 a1_7] 50 (0, 0))) := ⟨(by rw [hw]; exact (by (with_reducible repeat (first | apply bkN | apply bkD | apply bkA)); refine blk_far ?_ NB344_371.out _; (with_reducible repeat (first | apply bkN | apply bkD | apply bkA)); refine blk_far ?_ NB344_371.out _; (with_reducible repeat (first | apply bkN | apply bkD | apply bkA)); refine blk_far ?_ NB344_371.out _; (with_reducible repeat (first | apply bkN | apply bkD | apply bkA)); exact BK344.out))⟩; have n6_ : Aside0 (w74.heap[gb360]? = some (.cells #[.int .i64 t348, .slice Ao36 t349.length co36, u361002, u361003, .int .u32 t358, .int .u32 t359] 46 (0, 0))) := ⟨(by rw [hw]; exact (by (with_reducible repeat (first | apply bkN | apply bkD | apply bkA)); refine blk_far ?_ NB360_371.out _; (with_reducible repeat (first | apply bkN | apply bkD | apply bkA)); refine blk_far ?_ NB360_371.out _; (with_reducible repeat (first | apply bkN | apply bkD | apply bkA)); refine blk_far ?_ NB360_371.out _; (with_reducible repeat (first | apply bkN | apply bkD | apply bkA)); exact BK360.out))⟩; have n7_ : Aside0 (w74.heap[gb371]? = some (.cells #[.int .i64 4, .slice none 0 0, .slice Ao68 y368.length co68] 25 (0, 0))) := ⟨(by rw [hw]; exact (by (with_reducible repeat (first | apply bkN | apply bkD | apply bkA)); refine blk_put (cs := #[.int .i64 4, .slice none 0 0, .slice none 0 0]) ?_ 2 _ rfl; (with_reducible repeat (first | apply bkN | apply bkD | apply bkA)); refine blk_put (cs := #[.int .i64 4, .slice none 0 0, .slice none 0 0]) ?_ 1 _ rfl; (with_reducible repeat (first | apply bkN | apply bkD | apply bkA)); refine blk_put (cs := #[.int .i64 0, .slice none 0 0, .slice none 0 0]) ?_ 0 _ rfl; (with_reducible repeat (first | apply bkN | apply bkD | apply bkA)); exact BK371.out))⟩; have n8_ : Aside0 (Below w.heap.size w w74) := ⟨(by rw [hw]; exact (by repeat (first | (with_reducible first | exact HB.out | apply blA | apply blN | apply blD | refine bS ?_ GE343.out | refine bS ?_ GE344.out | refine bS ?_ GE360.out | refine bS ?_ GE371.out) | exact HB.out)))⟩; clear hw; clear HO_361001; clear HO_361002; clear HO_361003; clear HO370; clear BK343; clear BK344; clear BK360; clear BK371; clear HB; have HO_361001 := n0_; have HO_361002 := n1_; have HO_361003 := n2_; have HO370 := n3_; have BK343 := n4_; have BK344 := n5_; have BK360 := n6_; have BK371 := n7_; have HB := n8_; clear n0_ n1_ n2_ n3_ n4_ n5_ n6_ n7_ n8_; have hnb75 := NB360_343.out; have hnc75 := NB343_360.out; have hnb76 := NB360_344.out; have hnc76 := NB344_360.out; have hcz77_0 : w74.cell? ⟨gb360, 0, none⟩ = some (.int .i64 t348) := (blk_cell BK360.out 0).trans rfl; have hcz77_1 : w74.cell? ⟨gb360, 1, none⟩ = some (.slice Ao36 t349.length co36) := (blk_cell BK360.out 1).trans rfl; have hcz77_2 : w74.cell? ⟨gb360, 2, none⟩ = some (u361002) := (blk_cell BK360.out 2).trans rfl; have hcz77_3 : w74.cell? ⟨gb360, 3, none⟩ = some (u361003) := (blk_cell BK360.out 3).trans rfl; have hcz77_4 : w74.cell? ⟨gb360, 4, none⟩ = some (.int .u32 t358) := (blk_cell BK360.out 4).trans rfl; have hcz77_5 : w74.cell? ⟨gb360, 5, none⟩ = some (.int .u32 t359) := (blk_cell BK360.out 5).trans rfl; have hfz77_0 := bF BK360.out 0; have hfz77_1 := bF BK360.out 1; have hfz77_2 := bF BK360.out 2; have hfz77_3 := bF BK360.out 3; have hfz77_4 := bF BK360.out 4; have hfz77_5 := bF BK360.out 5; have hcz78_0 : w74.cell? ⟨gb371, 0, none⟩ = some (.int .i64 4) := (blk_cell BK371.out 0).trans rfl; have hcz78_1 : w74.cell? ⟨gb371, 1, none⟩ = some (.slice none 0 0) := (blk_cell BK371.out 1).trans rfl; have hcz78_2 : w74.cell? ⟨gb371, 2, none⟩ = some (.slice Ao68 y368.length co68) := (blk_cell BK371.out 2).trans rfl; have hfz78_0 := bF BK371.out 0; have hfz78_1 := bF BK371.out 1; have hfz78_2 := bF BK371.out 2) | ((with_reducible refine gate_builtin (b := .append) (xs := #[.tmp 69, .tmp 72]) rfl ?_); (try (refine gate_guard (by rfl) ?_; dsimp only)); at_builtin; refine Kd.N_append k61 (w0 := w) w.heap.size rfl (.tmp 69) (.tmp 72) 43 61 (.agg #[(.bool false), (.int .i64 0), (.slice none 0 0), (.slice none 0 0)]) 64 rfl Try.underlying43 info61 rfl (by decide) (by omega) u361002 x361002_2 (⟨false, (⟨4, ([] : List (S66)), y368⟩ : S25)⟩ : S61) [.bool false, .int .i64 4, .slice none 0 0, .slice Ao68 y368.length co68] (fun k_ => some k_ ≠ (.slice Ao36 t349.length co36 : Value).ownBlock ∧ some k_ ≠ (u361003 : Value).ownBlock ∧ k_ ≠ gb343 ∧ k_ ≠ gb344 ∧ k_ ≠ gb360 ∧ k_ ≠ gb371) (fun k_ => ((fun k_ => some k_ ≠ (.slice Ao36 t349.length co36 : Value).ownBlock ∧ some k_ ≠ (u361003 : Value).ownBlock ∧ k_ ≠ gb343 ∧ k_ ≠ gb344 ∧ k_ ≠ gb360 ∧ k_ ≠ gb371)) k_ ∧ some k_ ≠ (u361002 : Value).ownBlock) rfl rfl ?aP (fun _ hk => hk) ?aF ?aO ?aB ?aS ?aL ?_; (case aP => exact (k61_mkF _ _ (⟨false, (⟨4, ([] : List (S66)), y368⟩ : S25)⟩ : S61) (Nat.le_refl _) (Kd.F_nil _ _ _) (Kd.N_reads' (Kd.N_mono (ok' := (fun k_ => ((fun k_ => some k_ ≠ (.slice Ao36 t349.length co36 : Value).ownBlock ∧ some k_ ≠ (u361003 : Value).ownBlock ∧ k_ ≠ gb343 ∧ k_ ≠ gb344 ∧ k_ ≠ gb360 ∧ k_ ≠ gb371)) k_ ∧ some k_ ≠ (u361002 : Value).ownBlock)) (HO370.out) (fun k_ hk => ⟨⟨hk.1, ⟨hk.2.2.1, ⟨hk.2.2.2.1, ⟨hk.2.2.2.2.1, ⟨hk.2.2.2.2.2.1, hk.2.2.2.2.2.2⟩⟩⟩⟩⟩, hk.2.1⟩))).2.1 (Kd.N_F (Kd.N_mono (ok' := (fun k_ => ((fun k_ => some k_ ≠ (.slice Ao36 t349.length co36 : Value).ownBlock ∧ some k_ ≠ (u361003 : Value).ownBlock ∧ k_ ≠ gb343 ∧ k_ ≠ gb344 ∧ k_ ≠ gb360 ∧ k_ ≠ gb371)) k_ ∧ some k_ ≠ (u361002 : Value).ownBlock)) (HO370.out) (fun k_ hk => ⟨⟨hk.1, ⟨hk.2.2.1, ⟨hk.2.2.2.1, ⟨hk.2.2.2.2.1, ⟨hk.2.2.2.2.2.1, hk.2.2.2.2.2.2⟩⟩⟩⟩⟩, hk.2.1⟩))))); (case aB => exact (by repeat (first | (with_reducible first | exact HB.out | apply blA | apply blN | apply blD | refine bS ?_ GE343.out | refine bS ?_ GE344.out | refine bS ?_ GE360.out | refine bS ?_ GE371.out) | exact HB.out))); (case aF => exact (fun k_ hk => ⟨Kd.fresh' (Kd.R_lt (uk_ HO_361001.out)) k_ hk, Kd.fresh' (Kd.N_lt (by (with_reducible repeat (first | apply Kd.N_alloc | apply Kd.N_drewN | apply Kd.N_drew)); exact HO_361003.out)) k_ hk, Kd.freshB (g := gb343) (o := .cells #[.int .i64 a0_0, .slice A0_1 l0_1.length c0_1, .slice A0_2 l0_2.length c0_2, .slice A0_3 l0_3.length c0_3, .int .u32 a0_4, .int .u32 a0_5] 46 (0, 0)) (up_ BK343.out) k_ hk, Kd.freshB (g := gb344) (o := .cells #[.int .u32 a1_0, .int .i64 a1_1, .slice A1_2 l1_2.length c1_2, .slice A1_3 l1_3.length c1_3, .int .u32 a1_4, .int .u32 a1_5, .int .i64 a1_6, .int .u32 a1_7] 50 (0, 0)) (up_ BK344.out) k_ hk, Kd.freshB (g := gb360) (o := .cells #[.int .i64 t348, .slice Ao36 t349.length co36, u361002, u361003, .int .u32 t358, .int .u32 t359] 46 (0, 0)) (up_ BK360.out) k_ hk, Kd.freshB (g := gb371) (o := .cells #[.int .i64 4, .slice none 0 0, .slice Ao68 y368.length co68] 25 (0, 0)) (up_ BK371.out) k_ hk⟩)); (case aO => exact (by (with_reducible repeat (first | apply Kd.N_alloc | apply Kd.N_drewN | apply Kd.N_drew)); exact Kd.N_mono HO_361002.out (fun _ hk => ⟨hk.1, ⟨hk.2.1, ⟨hk.2.2.2.1, ⟨hk.2.2.2.2.1, ⟨hk.2.2.2.2.2.1, hk.2.2.2.2.2.2⟩⟩⟩⟩⟩))); (case aS => exact (below_size (by repeat (first | (with_reducible first | exact HB.out | apply blA | apply blN | apply blD | refine bS ?_ GE343.out | refine bS ?_ GE344.out | refine bS ?_ GE360.out | refine bS ?_ GE371.out) | exact HB.out)))); (case aL => have := LMc56.out; omega); intro v373 w79 ho hb hg hat; rw [← Ny372.out] at ho; have n0_ := aM (Kd.R_over' (uk_ HO_361001.out) (Kd.N_typed (by (with_reducible repeat (first | apply Kd.N_alloc | apply Kd.N_drewN | apply Kd.N_drew)); exact HO_361002.out)) (by decide) hg); have n1_ := aM (Kd.N_afterv (ok := (fun k_ => some k_ ≠ (.slice Ao36 t349.length co36 : Value).ownBlock ∧ some k_ ≠ (.slice Ao68 y368.length co68 : Value).ownBlock ∧ k_ ≠ gb343 ∧ k_ ≠ gb344 ∧ k_ ≠ gb360 ∧ k_ ≠ gb371)) (by (with_reducible repeat (first | apply Kd.N_alloc | apply Kd.N_drewN | apply Kd.N_drew)); exact Kd.N_mono HO_361003.out (fun _ hk => ⟨⟨hk.1, ⟨hk.2.2.1, ⟨hk.2.2.2.1, ⟨hk.2.2.2.2.1, ⟨hk.2.2.2.2.2.1, hk.2.2.2.2.2.2⟩⟩⟩⟩⟩, hk.2.1⟩)) hg hat); have n2_ := aM (blk_grown (g := gb343) (o := .cells #[.int .i64 a0_0, .slice A0_1 l0_1.length c0_1, .slice A0_2 l0_2.length c0_2, .slice A0_3 l0_3.length c0_3, .int .u32 a0_4, .int .u32 a0_5] 46 (0, 0)) (up_ BK343.out) hg (Kd.N_ne HO_361002.out BK343.out (by decide))); have n3_ := aM (blk_grown (g := gb344) (o := .cells #[.int .u32 a1_0, .int .i64 a1_1, .slice A1_2 l1_2.length c1_2, .slice A1_3 l1_3.length c1_3, .int .u32 a1_4, .int .u32 a1_5, .int .i64 a1_6, .int .u32 a1_7] 50 (0, 0)) (up_ BK344.out) hg (Kd.N_ne HO_361002.out BK344.out (by decide))); have n4_ := aM (blk_grown (g := gb360) (o := .cells #[.int .i64 t348, .slice Ao36 t349.length co36, u361002, u361003, .int .u32 t358, .int .u32 t359] 46 (0, 0)) (up_ BK360.out) hg (Kd.N_ne HO_361002.out BK360.out (by decide))); have n5_ := aM (blk_grown (g := gb371) (o := .cells #[.int .i64 4, .slice none 0 0, .slice Ao68 y368.length co68] 25 (0, 0)) (up_ BK371.out) hg (Kd.N_ne HO_361002.out BK371.out (by decide))); have n6_ := aM (hb); have n7_ := aM (ho); clear HO_361001; clear HO_361003; clear BK343; clear BK344; clear BK360; clear BK371; clear HB; clear HO_361002; clear HO370; have HO_361001 := n0_; have HO_361003 := n1_; have BK343 := n2_; have BK344 := n3_; have BK360 := n4_; have BK371 := n5_; have HB := n6_; have HO374 := n7_; clear n0_ n1_ n2_ n3_ n4_ n5_ n6_ n7_; clear ho hb hg hat; obtain ⟨Ao80, co80, eo80⟩ := Kd.N_slice HO374.out; subst eo80; have hcz81_0 : w79.cell? ⟨gb360, 0, none⟩ = some (.int .i64 t348) := (blk_cell BK360.out 0).trans rfl; have hcz81_1 : w79.cell? ⟨gb360, 1, none⟩ = some (.slice Ao36 t349.length co36) := (blk_cell BK360.out 1).trans rfl; have hcz81_2 : w79.cell? ⟨gb360, 2, none⟩ = some (u361002) := (blk_cell BK360.out 2).trans rfl; have hcz81_3 : w79.cell? ⟨gb360, 3, none⟩ = some (u361003) := (blk_cell BK360.out 3).trans rfl; have hcz81_4 : w79.cell? ⟨gb360, 4, none⟩ = some (.int .u32 t358) := (blk_cell BK360.out 4).trans rfl; have hcz81_5 : w79.cell? ⟨gb360, 5, none⟩ = some (.int .u32 t359) := (blk_cell BK360.out 5).trans rfl; have hfz81_0 := bF BK360.out 0; have hfz81_1 := bF BK360.out 1; have hfz81_2 := bF BK360.out 2; have hfz81_3 := bF BK360.out 3; have hfz81_4 := bF BK360.out 4; have hfz81_5 := bF BK360.out 5) | ((with_reducible refine gate_builtin (b := .append) (xs := #[.tmp 76, .tmp 78]) rfl ?_); (try (refine gate_guard (by rfl) ?_; dsimp only)); at_builtin; refine Kd.N_append k64 (w0 := w) w.heap.size rfl (.tmp 76) (.tmp 78) 44 64 (.agg #[(.bool false), (.slice none 0 0)]) 32 rfl Try.underlying44 info64 rfl (by decide) (by omega) u361003 x361003_3 (⟨false, ([] : List (S76))⟩ : S64) [.bool false, .slice none 0 0] (fun k_ => some k_ ≠ (.slice Ao36 t349.length co36 : Value).ownBlock ∧ some k_ ≠ (.slice Ao80 y372.length co80 : Value).ownBlock ∧ k_ ≠ gb343 ∧ k_ ≠ gb344 ∧ k_ ≠ gb360 ∧ k_ ≠ gb371) (fun k_ => ((fun k_ => some k_ ≠ (.slice Ao36 t349.length co36 : Value).ownBlock ∧ some k_ ≠ (.slice Ao80 y372.length co80 : Value).ownBlock ∧ k_ ≠ gb343 ∧ k_ ≠ gb344 ∧ k_ ≠ gb360 ∧ k_ ≠ gb371)) k_ ∧ some k_ ≠ (u361003 : Value).ownBlock) rfl (by first | (go_simp; done) | (go_simp; rfl)) ?aP (fun _ hk => hk) ?aF ?aO ?aB ?aS ?aL ?_; (case aP => exact (k64_mkF _ _ (⟨false, ([] : List (S76))⟩ : S64) (Nat.le_refl _) (Kd.F_nil _ _ _))); (case aB => exact (by repeat (first | (with_reducible first | exact HB.out | apply blA | apply blN | apply blD | refine bS ?_ GE343.out | refine bS ?_ GE344.out | refine bS ?_ GE360.out | refine bS ?_ GE371.out) | exact HB.out))); (case aF => exact (fun k_ hk => ⟨Kd.fresh' (Kd.R_lt (by (with_reducible repeat (first | apply kA | apply kN | apply kD)); exact (Kd.R_mono (Kd.R_far (p := ⟨gb360, 2, none⟩) (Kd.R_types HO_361001.out BK360.out (by decide)) (fun _ hk => hk.2) (.slice Ao80 y372.length co80)) (fun _ h_ => h_.1)))) k_ hk, Kd.fresh' (Kd.N_lt (by (with_reducible repeat (first | apply Kd.N_alloc | apply Kd.N_drewN | apply Kd.N_drew)); exact (Kd.N_mono (Kd.N_far (p := ⟨gb360, 2, none⟩) (Kd.N_mono HO374.out (fun k_ hk => (⟨hk, hk.2.2.2.2.1⟩ : _ ∧ k_ ≠ gb360))) (fun _ hk => hk.2) (.slice Ao80 y372.length co80)) (fun _ h_ => h_.1)))) k_ hk, Kd.freshB (g := gb343) (o := .cells #[.int .i64 a0_0, .slice A0_1 l0_1.length c0_1, .slice A0_2 l0_2.length c0_2, .slice A0_3 l0_3.length c0_3, .int .u32 a0_4, .int .u32 a0_5] 46 (0, 0)) (by (with_reducible repeat (first | apply bkN | apply bkD | apply bkA)); refine blk_far ?_ NB343_360.out _; (with_reducible repeat (first | apply bkN | apply bkD | apply bkA)); exact BK343.out) k_ hk, Kd.freshB (g := gb344) (o := .cells #[.int .u32 a1_0, .int .i64 a1_1, .slice A1_2 l1_2.length c1_2, .slice A1_3 l1_3.length c1_3, .int .u32 a1_4, .int .u32 a1_5, .int .i64 a1_6, .int .u32 a1_7] 50 (0, 0)) (by (with_reducible repeat (first | apply bkN | apply bkD | apply bkA)); refine blk_far ?_ NB344_360.out _; (with_reducible repeat (first | apply bkN | apply bkD | apply bkA)); exact BK344.out) k_ hk, Kd.freshB (g := gb360) (o := .cells #[.int .i64 t348, .slice Ao36 t349.length co36, .slice Ao80 y372.length co80, u361003, .int .u32 t358, .int .u32 t359] 46 (0, 0)) (by (with_reducible repeat (first | apply bkN | apply bkD | apply bkA)); refine blk_put (cs := #[.int .i64 t348, .slice Ao36 t349.length co36, u361002, u361003, .int .u32 t358, .int .u32 t359]) ?_ 2 _ rfl; (with_reducible repeat (first | apply bkN | apply bkD | apply bkA)); exact BK360.out) k_ hk, Kd.freshB (g := gb371) (o := .cells #[.int .i64 4, .slice none 0 0, .slice Ao68 y368.length co68] 25 (0, 0)) (by (with_reducible repeat (first | apply bkN | apply bkD | apply bkA)); refine blk_far ?_ NB371_360.out _; (with_reducible repeat (first | apply bkN | apply bkD | apply bkA)); exact BK371.out) k_ hk⟩)); (case aO => exact (by (with_reducible repeat (first | apply Kd.N_alloc | apply Kd.N_drewN | apply Kd.N_drew)); exact Kd.N_mono (Kd.N_far (p := ⟨gb360, 2, none⟩) (Kd.N_mono HO_361003.out (fun k_ hk => (⟨hk, hk.1.2.2.2.2.1⟩ : _ ∧ k_ ≠ gb360))) (fun _ hk => hk.2) (.slice Ao80 y372.length co80)) (fun _ hk => ⟨hk.1.1.1, ⟨hk.1.2, ⟨hk.1.1.2.2.1, ⟨hk.1.1.2.2.2.1, ⟨hk.1.1.2.2.2.2.1, hk.1.1.2.2.2.2.2⟩⟩⟩⟩⟩))); (case aS => exact (below_size (by repeat (first | (with_reducible first | exact HB.out | apply blA | apply blN | apply blD | refine bS ?_ GE343.out | refine bS ?_ GE344.out | refine bS ?_ GE360.out | refine bS ?_ GE371.out) | exact HB.out)))); (case aL => have := LMc57.out; omega); intro v376 w82 ho hb hg hat; rw [← Ny375.out] at ho; have n0_ := aM (Kd.R_over' (by (with_reducible repeat (first | apply kA | apply kN | apply kD)); exact (Kd.R_mono (Kd.R_far (p := ⟨gb360, 2, none⟩) (Kd.R_types HO_361001.out BK360.out (by decide)) (fun _ hk => hk.2) (.slice Ao80 y372.length co80)) (fun _ h_ => h_.1))) (Kd.N_typed (by (with_reducible repeat (first | apply Kd.N_alloc | apply Kd.N_drewN | apply Kd.N_drew)); exact (Kd.N_mono (Kd.N_far (p := ⟨gb360, 2, none⟩) (Kd.N_mono HO_361003.out (fun k_ hk => (⟨hk, hk.1.2.2.2.2.1⟩ : _ ∧ k_ ≠ gb360))) (fun _ hk => hk.2) (.slice Ao80 y372.length co80)) (fun _ h_ => h_.1)))) (by decide) hg); have n1_ := aM (blk_grown (g := gb343) (o := .cells #[.int .i64 a0_0, .slice A0_1 l0_1.length c0_1, .slice A0_2 l0_2.length c0_2, .slice A0_3 l0_3.length c0_3, .int .u32 a0_4, .int .u32 a0_5] 46 (0, 0)) (by (with_reducible repeat (first | apply bkN | apply bkD | apply bkA)); refine blk_far ?_ NB343_360.out _; (with_reducible repeat (first | apply bkN | apply bkD | apply bkA)); exact BK343.out) hg (Kd.N_ne HO_361003.out BK343.out (by decide))); have n2_ := aM (blk_grown (g := gb344) (o := .cells #[.int .u32 a1_0, .int .i64 a1_1, .slice A1_2 l1_2.length c1_2, .slice A1_3 l1_3.length c1_3, .int .u32 a1_4, .int .u32 a1_5, .int .i64 a1_6, .int .u32 a1_7] 50 (0, 0)) (by (with_reducible repeat (first | apply bkN | apply bkD | apply bkA)); refine blk_far ?_ NB344_360.out _; (with_reducible repeat (first | apply bkN | apply bkD | apply bkA)); exact BK344.out) hg (Kd.N_ne HO_361003.out BK344.out (by decide))); have n3_ := aM (blk_grown (g := gb360) (o := .cells #[.int .i64 t348, .slice Ao36 t349.length co36, .slice Ao80 y372.length co80, u361003, .int .u32 t358, .int .u32 t359] 46 (0, 0)) (by (with_reducible repeat (first | apply bkN | apply bkD | apply bkA)); refine blk_put (cs := #[.int .i64 t348, .slice Ao36 t349.length co36, u361002, u361003, .int .u32 t358, .int .u32 t359]) ?_ 2 _ rfl; (with_reducible repeat (first | apply bkN | apply bkD | apply bkA)); exact BK360.out) hg (Kd.N_ne HO_361003.out BK360.out (by decide))); have n4_ := aM (blk_grown (g := gb371) (o := .cells #[.int .i64 4, .slice none 0 0, .slice Ao68 y368.length co68] 25 (0, 0)) (by (with_reducible repeat (first | apply bkN | apply bkD | apply bkA)); refine blk_far ?_ NB371_360.out _; (with_reducible repeat (first | apply bkN | apply bkD | apply bkA)); exact BK371.out) hg (Kd.N_ne HO_361003.out BK371.out (by decide))); have n5_ := aM (Kd.N_afterv (ok := (fun k_ => some k_ ≠ (.slice Ao36 t349.length co36 : Value).ownBlock ∧ k_ ≠ gb343 ∧ k_ ≠ gb344 ∧ k_ ≠ gb360 ∧ k_ ≠ gb371)) (by (with_reducible repeat (first | apply Kd.N_alloc | apply Kd.N_drewN | apply Kd.N_drew)); exact Kd.N_mono (Kd.N_far (p := ⟨gb360, 2, none⟩) (Kd.N_mono HO374.out (fun k_ hk => (⟨hk, hk.2.2.2.2.1⟩ : _ ∧ k_ ≠ gb360))) (fun _ hk => hk.2) (.slice Ao80 y372.length co80)) (fun _ hk => ⟨⟨hk.1.1, ⟨hk.1.2.2.1, ⟨hk.1.2.2.2.1, ⟨hk.1.2.2.2.2.1, hk.1.2.2.2.2.2⟩⟩⟩⟩, hk.1.2.1⟩)) hg hat); have n6_ := aM (hb); have n7_ := aM (ho); clear HO_361001; clear BK343; clear BK344; clear BK360; clear BK371; clear HO374; clear HB; clear HO_361003; have HO_361001 := n0_; have BK343 := n1_; have BK344 := n2_; have BK360 := n3_; have BK371 := n4_; have HO374 := n5_; have HB := n6_; have HO377 := n7_; clear n0_ n1_ n2_ n3_ n4_ n5_ n6_ n7_; clear ho hb hg hat; obtain ⟨Ao83, co83, eo83⟩ := Kd.N_slice HO377.out; subst eo83; have hcz84_0 : w82.cell? ⟨gb360, 0, none⟩ = some (.int .i64 t348) := (blk_cell BK360.out 0).trans rfl; have hcz84_1 : w82.cell? ⟨gb360, 1, none⟩ = some (.slice Ao36 t349.length co36) := (blk_cell BK360.out 1).trans rfl; have hcz84_2 : w82.cell? ⟨gb360, 2, none⟩ = some (.slice Ao80 y372.length co80) := (blk_cell BK360.out 2).trans rfl; have hcz84_3 : w82.cell? ⟨gb360, 3, none⟩ = some (u361003) := (blk_cell BK360.out 3).trans rfl; have hcz84_4 : w82.cell? ⟨gb360, 4, none⟩ = some (.int .u32 t358) := (blk_cell BK360.out 4).trans rfl; have hcz84_5 : w82.cell? ⟨gb360, 5, none⟩ = some (.int .u32 t359) := (blk_cell BK360.out 5).trans rfl; have hfz84_0 := bF BK360.out 0; have hfz84_1 := bF BK360.out 1; have hfz84_2 := bF BK360.out 2; have hfz84_3 := bF BK360.out 3; have hfz84_4 := bF BK360.out 4; have hfz84_5 := bF BK360.out 5))
                     have n0_ : Aside0 (Kd.R k83 83 (w82.setCell ⟨gb360, 3, none⟩ (.slice Ao83 y375.length co83)) w.heap.size (fun _ => True) (.slice Ao36 t349.length co36) t349) := ⟨by (with_reducible repeat (first | apply kA | apply kN | apply kD)); exact Kd.R_mono (Kd.R_far (p := ⟨gb360, 3, none⟩) (Kd.R_types HO_361001.out BK360.out (by decide)) (fun _ hk => hk.2) (.slice Ao83 y375.length co83)) (fun _ hk => trivial)⟩
                     have n1_ : Aside0 (Kd.N k61 61 (w82.setCell ⟨gb360, 3, none⟩ (.slice Ao83 y375.length co83)) w.heap.size (fun k_ => some k_ ≠ (.slice Ao36 t349.length co36 : Value).ownBlock ∧ some k_ ≠ (.slice Ao83 y375.length co83 : Value).ownBlock ∧ k_ ≠ gb343 ∧ k_ ≠ gb344 ∧ k_ ≠ gb360 ∧ k_ ≠ gb371) (.slice Ao80 y372.length co80) y372) := ⟨by (with_reducible repeat (first | apply Kd.N_alloc | apply Kd.N_drewN | apply Kd.N_drew)); exact Kd.N_mono (Kd.N_far (p := ⟨gb360, 3, none⟩) (Kd.N_mono HO374.out (fun k_ hk => (⟨hk, hk.1.2.2.2.1⟩ : _ ∧ k_ ≠ gb360))) (fun _ hk => hk.2) (.slice Ao83 y375.length co83)) (fun _ hk => ⟨hk.1.1.1, ⟨hk.1.2, ⟨hk.1.1.2.1, ⟨hk.1.1.2.2.1, ⟨hk.1.1.2.2.2.1, hk.1.1.2.2.2.2⟩⟩⟩⟩⟩)⟩
                     have n2_ : Aside0 (Kd.N k64 64 (w82.setCell ⟨gb360, 3, none⟩ (.slice Ao83 y375.length co83)) w.heap.size (fun k_ => some k_ ≠ (.slice Ao36 t349.length co36 : Value).ownBlock ∧ some k_ ≠ (.slice Ao80 y372.length co80 : Value).ownBlock ∧ k_ ≠ gb343 ∧ k_ ≠ gb344 ∧ k_ ≠ gb360 ∧ k_ ≠ gb371) (.slice Ao83 y375.length co83) y375) := ⟨by (with_reducible repeat (first | apply Kd.N_alloc | apply Kd.N_drewN | apply Kd.N_drew)); exact Kd.N_mono (Kd.N_far (p := ⟨gb360, 3, none⟩) (Kd.N_mono HO377.out (fun k_ hk => (⟨hk, hk.2.2.2.2.1⟩ : _ ∧ k_ ≠ gb360))) (fun _ hk => hk.2) (.slice Ao83 y375.length co83)) (fun _ hk => ⟨hk.1.1, ⟨hk.1.2.1, ⟨hk.1.2.2.1, ⟨hk.1.2.2.2.1, ⟨hk.1.2.2.2.2.1, hk.1.2.2.2.2.2⟩⟩⟩⟩⟩)⟩
                     have n3_ : Aside0 ((w82.setCell ⟨gb360, 3, none⟩ (.slice Ao83 y375.length co83)).heap[gb343]? = some (.cells #[.int .i64 a0_0, .slice A0_1 l0_1.length c0_1, .slice A0_2 l0_2.length c0_2, .slice A0_3 l0_3.length c0_3, .int .u32 a0_4, .int .u32 a0_5] 46 (0, 0))) := ⟨by (with_reducible repeat (first | apply bkN | apply bkD | apply bkA)); refine blk_far ?_ NB343_360.out _; (with_reducible repeat (first | apply bkN | apply bkD | apply bkA)); exact BK343.out⟩
                     have n4_ : Aside0 ((w82.setCell ⟨gb360, 3, none⟩ (.slice Ao83 y375.length co83)).heap[gb344]? = some (.cells #[.int .u32 a1_0, .int .i64 a1_1, .slice A1_2 l1_2.length c1_2, .slice A1_3 l1_3.length c1_3, .int .u32 a1_4, .int .u32 a1_5, .int .i64 a1_6, .int .u32 a1_7] 50 (0, 0))) := ⟨by (with_reducible repeat (first | apply bkN | apply bkD | apply bkA)); refine blk_far ?_ NB344_360.out _; (with_reducible repeat (first | apply bkN | apply bkD | apply bkA)); exact BK344.out⟩
                     have n5_ : Aside0 ((w82.setCell ⟨gb360, 3, none⟩ (.slice Ao83 y375.length co83)).heap[gb360]? = some (.cells #[.int .i64 t348, .slice Ao36 t349.length co36, .slice Ao80 y372.length co80, .slice Ao83 y375.length co83, .int .u32 t358, .int .u32 t359] 46 (0, 0))) := ⟨by (with_reducible repeat (first | apply bkN | apply bkD | apply bkA)); refine blk_put (cs := #[.int .i64 t348, .slice Ao36 t349.length co36, .slice Ao80 y372.length co80, u361003, .int .u32 t358, .int .u32 t359]) ?_ 3 _ rfl; (with_reducible repeat (first | apply bkN | apply bkD | apply bkA)); exact BK360.out⟩
                     have n6_ : Aside0 ((w82.setCell ⟨gb360, 3, none⟩ (.slice Ao83 y375.length co83)).heap[gb371]? = some (.cells #[.int .i64 4, .slice none 0 0, .slice Ao68 y368.length co68] 25 (0, 0))) := ⟨by (with_reducible repeat (first | apply bkN | apply bkD | apply bkA)); refine blk_far ?_ NB371_360.out _; (with_reducible repeat (first | apply bkN | apply bkD | apply bkA)); exact BK371.out⟩
                     have n7_ : Aside0 (Below w.heap.size w (w82.setCell ⟨gb360, 3, none⟩ (.slice Ao83 y375.length co83))) := ⟨by repeat (first | (with_reducible first | exact HB.out | apply blA | apply blN | apply blD | refine bS ?_ GE343.out | refine bS ?_ GE344.out | refine bS ?_ GE360.out | refine bS ?_ GE371.out) | exact HB.out)⟩
                     (try clear HO_361001)
                     (try clear HO374)
                     (try clear HO377)
                     (try clear BK343)
                     (try clear BK344)
                     (try clear BK360)
                     (try clear BK371)
                     (try clear HB)
                     generalize (w82.setCell ⟨gb360, 3, none⟩ (.slice Ao83 y375.length co83)) = w85 at n0_ n1_ n2_ n3_ n4_ n5_ n6_ n7_ ⊢
                     have HO_361001 := n0_
                     have HO374 := n1_
                     have HO377 := n2_
                     have BK343 := n3_
                     have BK344 := n4_
                     have BK360 := n5_
                     have BK371 := n6_
                     have HB := n7_
                     clear n0_ n1_ n2_ n3_ n4_ n5_ n6_ n7_
                     have n0_ := aM (Kd.R_drew HO_361001.out)
                     have n1_ := aM (Kd.N_drew HO374.out)
                     have n2_ := aM (Kd.N_drew HO377.out)
                     have n3_ := aM (blk_drew BK343.out)
                     have n4_ := aM (blk_drew BK344.out)
                     have n5_ := aM (blk_drew BK360.out)
                     have n6_ := aM (blk_drew BK371.out)
                     have n7_ := aM (below_drew1 HB.out)
                     clear HO_361001
                     clear HO374
                     clear HO377
                     clear BK343
                     clear BK344
                     clear BK360
                     clear BK371
                     clear HB
                     have HO_361001 := n0_
                     have HO374 := n1_
                     have HO377 := n2_
                     have BK343 := n3_
                     have BK344 := n4_
                     have BK360 := n5_
                     have BK371 := n6_
                     have HB := n7_
                     clear n0_ n1_ n2_ n3_ n4_ n5_ n6_ n7_
                     refine start_ (n := 25) (S := fun w' => w'.cell? ⟨gb360, 0, none⟩ = some (.int .i64 t348) ∧ w'.cell? ⟨gb360, 1, none⟩ = some (.slice Ao36 t349.length co36) ∧ w'.cell? ⟨gb360, 2, none⟩ = some (.slice Ao80 y372.length co80) ∧ w'.cell? ⟨gb360, 3, none⟩ = some (.slice Ao83 y375.length co83) ∧ w'.cell? ⟨gb360, 4, none⟩ = some (.int .u32 t358) ∧ w'.cell? ⟨gb360, 5, none⟩ = some (.int .u32 t359) ∧ w'.cell? ⟨gb344, 0, none⟩ = some (.int .u32 a1_0) ∧ w'.cell? ⟨gb344, 1, none⟩ = some (.int .i64 a1_1) ∧ w'.cell? ⟨gb344, 2, none⟩ = some (.slice A1_2 l1_2.length c1_2) ∧ w'.cell? ⟨gb344, 3, none⟩ = some (.slice A1_3 l1_3.length c1_3) ∧ w'.cell? ⟨gb344, 4, none⟩ = some (.int .u32 a1_4) ∧ w'.cell? ⟨gb344, 5, none⟩ = some (.int .u32 a1_5) ∧ w'.cell? ⟨gb344, 6, none⟩ = some (.int .i64 a1_6) ∧ w'.cell? ⟨gb344, 7, none⟩ = some (.int .u32 a1_7) ∧ w'.cell? ⟨gb343, 0, none⟩ = some (.int .i64 a0_0) ∧ w'.cell? ⟨gb343, 1, none⟩ = some (.slice A0_1 l0_1.length c0_1) ∧ w'.cell? ⟨gb343, 2, none⟩ = some (.slice A0_2 l0_2.length c0_2) ∧ w'.cell? ⟨gb343, 3, none⟩ = some (.slice A0_3 l0_3.length c0_3) ∧ w'.cell? ⟨gb343, 4, none⟩ = some (.int .u32 a0_4) ∧ w'.cell? ⟨gb343, 5, none⟩ = some (.int .u32 a0_5)) (ds := []) (tf 0 25) (by kernel_rfl) rfl rfl ⟨(blk_cell BK360.out 0).trans rfl, (blk_cell BK360.out 1).trans rfl, (blk_cell BK360.out 2).trans rfl, (blk_cell BK360.out 3).trans rfl, (blk_cell BK360.out 4).trans rfl, (blk_cell BK360.out 5).trans rfl, (blk_cell BK344.out 0).trans rfl, (blk_cell BK344.out 1).trans rfl, (blk_cell BK344.out 2).trans rfl, (blk_cell BK344.out 3).trans rfl, (blk_cell BK344.out 4).trans rfl, (blk_cell BK344.out 5).trans rfl, (blk_cell BK344.out 6).trans rfl, (blk_cell BK344.out 7).trans rfl, (blk_cell BK343.out 0).trans rfl, (blk_cell BK343.out 1).trans rfl, (blk_cell BK343.out 2).trans rfl, (blk_cell BK343.out 3).trans rfl, (blk_cell BK343.out 4).trans rfl, (blk_cell BK343.out 5).trans rfl⟩ (fun hHeld => ?_); refine with_tabW dragomanlaw11_CondDenies.tab19 dragomanlaw11_CondDenies.bits19 (fun HT_ HW_ => ?_)
                     generalize w85.drew = w86 at HO_361001 HO374 HO377 BK343 BK344 BK360 BK371 HB hHeld ⊢
                     refine pure_ (i := 0) (N := some 81) (v := ?_) (a' := ?_) (tf 1 24) rfl rfl (any_of HT_.out (by kernel_rfl)) (fun _ _ _ h => h) (Or.inl ⟨by rfl, ?_⟩) ?_ ?_
                     rotate_left
                     · intro w'
                       go_simp
                       with_reducible rfl
                     rotate_left
                     · simp only [Act.put, sT, sZ, sS, i64_w, i32_w]
                       rfl
                     refine pure_ (i := 2) (N := some 83) (v := ?_) (a' := ?_) #[true, false, true, false, false, false, false, false, false, false, false, false, false, false, false, false, false, false, false, false, false, false, false, false, false] rfl rfl (any_of HT_.out (by kernel_rfl)) (fun _ _ _ h => h) (Or.inl ⟨by rfl, ?_⟩) ?_ ?_
                     rotate_left
                     · intro w'
                       go_simp
                       with_reducible rfl
                     rotate_left
                     · simp only [Act.put, sT, sZ, sS, i64_w, i32_w]
                       rfl
                     refine pure_ (i := 5) (N := some 86) (v := ?_) (a' := ?_) #[true, false, true, false, false, true, false, false, false, false, false, false, false, false, false, false, false, false, false, false, false, false, false, false, false] rfl rfl (any_of HT_.out (by kernel_rfl)) (fun _ _ _ h => h) (Or.inl ⟨by rfl, ?_⟩) ?_ ?_
                     rotate_left
                     · intro w'
                       go_simp
                       with_reducible rfl
                     rotate_left
                     · simp only [Act.put, sT, sZ, sS, i64_w, i32_w]
                       rfl
                     refine pure_ (i := 7) (N := some 88) (v := ?_) (a' := ?_) #[true, false, true, false, false, true, false, true, false, false, false, false, false, false, false, false, false, false, false, false, false, false, false, false, false] rfl rfl (any_of HT_.out (by kernel_rfl)) (fun _ _ _ h => h) (Or.inl ⟨by rfl, ?_⟩) ?_ ?_
                     rotate_left
                     · intro w'
                       go_simp
                       with_reducible rfl
                     rotate_left
                     · simp only [Act.put, sT, sZ, sS, i64_w, i32_w]
                       rfl
                     refine take_ (i := 1) (N := some 82) (v := ?_) (a' := ?_) #[true, true, true, false, false, true, false, true, false, false, false, false, false, false, false, false, false, false, false, false, false, false, false, false, false] rfl rfl (take_ofW HT_.out HW_.out (by kernel_rfl)) (fun _ _ _ h => h) (Or.inl ⟨by rfl, ?_⟩) hHeld ?_ ?_
                     rotate_left
                     · rintro w' ⟨s0, s1, s2, s3, s4, s5, s6, s7, s8, s9, s10, s11, s12, s13, s14, s15, s16, s17, s18, s19⟩
                       go_simp
                       with_reducible rfl
                     rotate_left
                     · simp only [Act.put, sT, sZ, sS, i64_w, i32_w]
                       rfl
                     refine take_ (i := 3) (N := some 84) (v := ?_) (a' := ?_) #[true, true, true, true, false, true, false, true, false, false, false, false, false, false, false, false, false, false, false, false, false, false, false, false, false] rfl rfl (take_ofW HT_.out HW_.out (by kernel_rfl)) (fun _ _ _ h => h) (Or.inl ⟨by rfl, ?_⟩) hHeld ?_ ?_
                     rotate_left
                     · rintro w' ⟨s0, s1, s2, s3, s4, s5, s6, s7, s8, s9, s10, s11, s12, s13, s14, s15, s16, s17, s18, s19⟩
                       go_simp
                       with_reducible rfl
                     rotate_left
                     · simp only [Act.put, sT, sZ, sS, i64_w, i32_w]
                       rfl
                     refine take_ (i := 6) (N := some 87) (v := ?_) (a' := ?_) #[true, true, true, true, false, true, true, true, false, false, false, false, false, false, false, false, false, false, false, false, false, false, false, false, false] rfl rfl (take_ofW HT_.out HW_.out (by kernel_rfl)) (fun _ _ _ h => h) (Or.inl ⟨by rfl, ?_⟩) hHeld ?_ ?_
                     rotate_left
                     · rintro w' ⟨s0, s1, s2, s3, s4, s5, s6, s7, s8, s9, s10, s11, s12, s13, s14, s15, s16, s17, s18, s19⟩
                       go_simp
                       with_reducible rfl
                     rotate_left
                     · simp only [Act.put, sT, sZ, sS, i64_w, i32_w]
                       rfl
                     refine take_ (i := 8) (N := some 89) (v := ?_) (a' := ?_) #[true, true, true, true, false, true, true, true, true, false, false, false, false, false, false, false, false, false, false, false, false, false, false, false, false] rfl rfl (take_ofW HT_.out HW_.out (by kernel_rfl)) (fun _ _ _ h => h) (Or.inl ⟨by rfl, ?_⟩) hHeld ?_ ?_
                     rotate_left
                     · rintro w' ⟨s0, s1, s2, s3, s4, s5, s6, s7, s8, s9, s10, s11, s12, s13, s14, s15, s16, s17, s18, s19⟩
                       go_simp
                       with_reducible rfl
                     rotate_left
                     · simp only [Act.put, sT, sZ, sS, i64_w, i32_w]
                       rfl
                     refine one_ (i := 4) (N := some 85) (tf 9 16) rfl rfl (one_of HT_.out (by kernel_rfl)) (by decide) (fun K hK => ?_)
                     refine goes_ Try.func38 (by kernel_rfl) rfl #[.slice Ao80 y372.length co80, .slice A1_2 l1_2.length c1_2] (by rfl) rfl rfl (by (try simp only [List.map_toArray, List.map_cons, List.map_nil]); first | done | rfl | (simp only [List.length_drop, List.length_take]; rfl)) ?_
                     with_reducible refine (cond_TakesPath.calls k3 _ _ y372 _ _ l1_2 t378 _ ?side1 ?side2 ?side3 ?side4 A58.out).mono ?_
                     (case side1 => repeat (first | exact (Kd.N_reads' HO374.out).2.2 | (with_reducible refine Kd.C_alloc ?_ _) | (with_reducible refine Kd.C_drewN ?_ _) | (with_reducible refine Kd.C_drew ?_)))
                     (case side2 => exact (Kd.N_reads' HO374.out).2.1)
                     (case side3 => repeat (first | exact (Kd.C_below HR1_2.out HB.out) | (with_reducible refine Kd.C_alloc ?_ _) | (with_reducible refine Kd.C_drewN ?_ _) | (with_reducible refine Kd.C_drew ?_)))
                     (case side4 => exact HC1_2.out)
                     rintro e w87 ⟨rfl, hb⟩
                     refine ⟨_, rfl, ?_⟩
                     have n0_ := aM (Kd.R_below (uk_ HO_361001.out) hb)
                     have n1_ := aM (Kd.N_below (by (with_reducible repeat (first | apply Kd.N_alloc | apply Kd.N_drewN | apply Kd.N_drew)); exact HO374.out) hb)
                     have n2_ := aM (Kd.N_below (by (with_reducible repeat (first | apply Kd.N_alloc | apply Kd.N_drewN | apply Kd.N_drew)); exact HO377.out) hb)
                     have n3_ := aM (blk_below (g := gb343) (o := .cells #[.int .i64 a0_0, .slice A0_1 l0_1.length c0_1, .slice A0_2 l0_2.length c0_2, .slice A0_3 l0_3.length c0_3, .int .u32 a0_4, .int .u32 a0_5] 46 (0, 0)) (up_ BK343.out) hb)
                     have n4_ := aM (blk_below (g := gb344) (o := .cells #[.int .u32 a1_0, .int .i64 a1_1, .slice A1_2 l1_2.length c1_2, .slice A1_3 l1_3.length c1_3, .int .u32 a1_4, .int .u32 a1_5, .int .i64 a1_6, .int .u32 a1_7] 50 (0, 0)) (up_ BK344.out) hb)
                     have n5_ := aM (blk_below (g := gb360) (o := .cells #[.int .i64 t348, .slice Ao36 t349.length co36, .slice Ao80 y372.length co80, .slice Ao83 y375.length co83, .int .u32 t358, .int .u32 t359] 46 (0, 0)) (up_ BK360.out) hb)
                     have n6_ := aM (blk_below (g := gb371) (o := .cells #[.int .i64 4, .slice none 0 0, .slice Ao68 y368.length co68] 25 (0, 0)) (up_ BK371.out) hb)
                     have n7_ := aM (below_step (by repeat (first | (with_reducible first | exact HB.out | apply blA | apply blN | apply blD | refine bS ?_ GE343.out | refine bS ?_ GE344.out | refine bS ?_ GE360.out | refine bS ?_ GE371.out) | exact HB.out)) hb)
                     clear HO_361001
                     clear HO374
                     clear HO377
                     clear BK343
                     clear BK344
                     clear BK360
                     clear BK371
                     clear HB
                     have HO_361001 := n0_
                     have HO374 := n1_
                     have HO377 := n2_
                     have BK343 := n3_
                     have BK344 := n4_
                     have BK360 := n5_
                     have BK371 := n6_
                     have HB := n7_
                     clear n0_ n1_ n2_ n3_ n4_ n5_ n6_ n7_
                     (try clear hb)
                     (try clear hb2)
                     (try clear hk)
                     (try clear hi)
                     refine hK.out _ _ ⟨(blk_cell BK360.out 0).trans rfl, (blk_cell BK360.out 1).trans rfl, (blk_cell BK360.out 2).trans rfl, (blk_cell BK360.out 3).trans rfl, (blk_cell BK360.out 4).trans rfl, (blk_cell BK360.out 5).trans rfl, (blk_cell BK344.out 0).trans rfl, (blk_cell BK344.out 1).trans rfl, (blk_cell BK344.out 2).trans rfl, (blk_cell BK344.out 3).trans rfl, (blk_cell BK344.out 4).trans rfl, (blk_cell BK344.out 5).trans rfl, (blk_cell BK344.out 6).trans rfl, (blk_cell BK344.out 7).trans rfl, (blk_cell BK343.out 0).trans rfl, (blk_cell BK343.out 1).trans rfl, (blk_cell BK343.out 2).trans rfl, (blk_cell BK343.out 3).trans rfl, (blk_cell BK343.out 4).trans rfl, (blk_cell BK343.out 5).trans rfl⟩ (fun hHeld => ?_)
                     clear hK K
                     refine norm_ (a' := ?_) ?_ ?_
                     rotate_left
                     · show Act.put _ (some 85) _ = _
                       simp only [Act.put, sT, sZ, sS, i64_w, i32_w]
                       rfl
                     refine one_ (i := 9) (N := some 90) (tf 10 15) rfl rfl (one_of HT_.out (by kernel_rfl)) (by decide) (fun K hK => ?_)
                     refine goes_ Try.func38 (by kernel_rfl) rfl #[.slice A0_2 l0_2.length c0_2, .slice A1_2 l1_2.length c1_2] (by rfl) rfl rfl (by (try simp only [List.map_toArray, List.map_cons, List.map_nil]); first | done | rfl | (simp only [List.length_drop, List.length_take]; rfl)) ?_
                     with_reducible refine (cond_TakesPath.calls k3 _ _ l0_2 _ _ l1_2 t379 _ ?side1 ?side2 ?side3 ?side4 A59.out).mono ?_
                     (case side1 => repeat (first | exact (Kd.C_below HR0_2.out HB.out) | (with_reducible refine Kd.C_alloc ?_ _) | (with_reducible refine Kd.C_drewN ?_ _) | (with_reducible refine Kd.C_drew ?_)))
                     (case side2 => exact HC0_2.out)
                     (case side3 => repeat (first | exact (Kd.C_below HR1_2.out HB.out) | (with_reducible refine Kd.C_alloc ?_ _) | (with_reducible refine Kd.C_drewN ?_ _) | (with_reducible refine Kd.C_drew ?_)))
                     (case side4 => exact HC1_2.out)
                     rintro e w88 ⟨rfl, hb⟩
                     refine ⟨_, rfl, ?_⟩
                     have n0_ := aM (Kd.R_below (uk_ HO_361001.out) hb)
                     have n1_ := aM (Kd.N_below (by (with_reducible repeat (first | apply Kd.N_alloc | apply Kd.N_drewN | apply Kd.N_drew)); exact HO374.out) hb)
                     have n2_ := aM (Kd.N_below (by (with_reducible repeat (first | apply Kd.N_alloc | apply Kd.N_drewN | apply Kd.N_drew)); exact HO377.out) hb)
                     have n3_ := aM (blk_below (g := gb343) (o := .cells #[.int .i64 a0_0, .slice A0_1 l0_1.length c0_1, .slice A0_2 l0_2.length c0_2, .slice A0_3 l0_3.length c0_3, .int .u32 a0_4, .int .u32 a0_5] 46 (0, 0)) (up_ BK343.out) hb)
                     have n4_ := aM (blk_below (g := gb344) (o := .cells #[.int .u32 a1_0, .int .i64 a1_1, .slice A1_2 l1_2.length c1_2, .slice A1_3 l1_3.length c1_3, .int .u32 a1_4, .int .u32 a1_5, .int .i64 a1_6, .int .u32 a1_7] 50 (0, 0)) (up_ BK344.out) hb)
                     have n5_ := aM (blk_below (g := gb360) (o := .cells #[.int .i64 t348, .slice Ao36 t349.length co36, .slice Ao80 y372.length co80, .slice Ao83 y375.length co83, .int .u32 t358, .int .u32 t359] 46 (0, 0)) (up_ BK360.out) hb)
                     have n6_ := aM (blk_below (g := gb371) (o := .cells #[.int .i64 4, .slice none 0 0, .slice Ao68 y368.length co68] 25 (0, 0)) (up_ BK371.out) hb)
                     have n7_ := aM (below_step (by repeat (first | (with_reducible first | exact HB.out | apply blA | apply blN | apply blD | refine bS ?_ GE343.out | refine bS ?_ GE344.out | refine bS ?_ GE360.out | refine bS ?_ GE371.out) | exact HB.out)) hb)
                     clear HO_361001
                     clear HO374
                     clear HO377
                     clear BK343
                     clear BK344
                     clear BK360
                     clear BK371
                     clear HB
                     have HO_361001 := n0_
                     have HO374 := n1_
                     have HO377 := n2_
                     have BK343 := n3_
                     have BK344 := n4_
                     have BK360 := n5_
                     have BK371 := n6_
                     have HB := n7_
                     clear n0_ n1_ n2_ n3_ n4_ n5_ n6_ n7_
                     (try clear hb)
                     (try clear hb2)
                     (try clear hk)
                     (try clear hi)
                     refine hK.out _ _ ⟨(blk_cell BK360.out 0).trans rfl, (blk_cell BK360.out 1).trans rfl, (blk_cell BK360.out 2).trans rfl, (blk_cell BK360.out 3).trans rfl, (blk_cell BK360.out 4).trans rfl, (blk_cell BK360.out 5).trans rfl, (blk_cell BK344.out 0).trans rfl, (blk_cell BK344.out 1).trans rfl, (blk_cell BK344.out 2).trans rfl, (blk_cell BK344.out 3).trans rfl, (blk_cell BK344.out 4).trans rfl, (blk_cell BK344.out 5).trans rfl, (blk_cell BK344.out 6).trans rfl, (blk_cell BK344.out 7).trans rfl, (blk_cell BK343.out 0).trans rfl, (blk_cell BK343.out 1).trans rfl, (blk_cell BK343.out 2).trans rfl, (blk_cell BK343.out 3).trans rfl, (blk_cell BK343.out 4).trans rfl, (blk_cell BK343.out 5).trans rfl⟩ (fun hHeld => ?_)
                     clear hK K
                     refine norm_ (a' := ?_) ?_ ?_
                     rotate_left
                     · show Act.put _ (some 90) _ = _
                       simp only [Act.put, sT, sZ, sS, i64_w, i32_w]
                       rfl
                     refine pure_ (i := 10) (N := some 91) (v := ?_) (a' := ?_) (tf 11 14) rfl rfl (any_of HT_.out (by kernel_rfl)) (fun _ _ _ h => h) (Or.inl ⟨by rfl, ?_⟩) ?_ ?_
                     rotate_left
                     · intro w'
                       go_simp
                       with_reducible rfl
                     rotate_left
                     · simp only [Act.put, sT, sZ, sS, i64_w, i32_w]
                       rfl
                     refine pure_ (i := 11) (N := some 92) (v := ?_) (a' := ?_) (tf 12 13) rfl rfl (any_of HT_.out (by kernel_rfl)) (fun _ _ _ h => h) (Or.inl ⟨by rfl, ?_⟩) ?_ ?_
                     rotate_left
                     · intro w'
                       go_simp
                       with_reducible rfl
                     rotate_left
                     · simp only [Act.put, sT, sZ, sS, i64_w, i32_w]
                       rfl
                     refine pure_ (i := 12) (N := some 93) (v := ?_) (a' := ?_) (tf 13 12) rfl rfl (any_of HT_.out (by kernel_rfl)) (fun _ _ _ h => h) (Or.inl ⟨by rfl, ?_⟩) ?_ ?_
                     rotate_left
                     · intro w'
                       go_simp
                       with_reducible rfl
                     rotate_left
                     · simp only [Act.put, sT, sZ, sS, i64_w, i32_w]
                       rfl
                     refine pure_ (i := 14) (N := some 95) (v := ?_) (a' := ?_) #[true, true, true, true, true, true, true, true, true, true, true, true, true, false, true, false, false, false, false, false, false, false, false, false, false] rfl rfl (any_of HT_.out (by kernel_rfl)) (fun _ _ _ h => h) (Or.inl ⟨by rfl, ?_⟩) ?_ ?_
                     rotate_left
                     · intro w'
                       go_simp
                       with_reducible rfl
                     rotate_left
                     · simp only [Act.put, sT, sZ, sS, i64_w, i32_w]
                       rfl
                     refine pure_ (i := 17) (N := some 98) (v := ?_) (a' := ?_) #[true, true, true, true, true, true, true, true, true, true, true, true, true, false, true, false, false, true, false, false, false, false, false, false, false] rfl rfl (any_of HT_.out (by kernel_rfl)) (fun _ _ _ h => h) (Or.inl ⟨by rfl, ?_⟩) ?_ ?_
                     rotate_left
                     · intro w'
                       go_simp
                       with_reducible rfl
                     rotate_left
                     · simp only [Act.put, sT, sZ, sS, i64_w, i32_w]
                       rfl
                     refine pure_ (i := 19) (N := some 100) (v := ?_) (a' := ?_) #[true, true, true, true, true, true, true, true, true, true, true, true, true, false, true, false, false, true, false, true, false, false, false, false, false] rfl rfl (any_of HT_.out (by kernel_rfl)) (fun _ _ _ h => h) (Or.inl ⟨by rfl, ?_⟩) ?_ ?_
                     rotate_left
                     · intro w'
                       go_simp
                       with_reducible rfl
                     rotate_left
                     · simp only [Act.put, sT, sZ, sS, i64_w, i32_w]
                       rfl
                     refine take_ (i := 13) (N := some 94) (v := ?_) (a' := ?_) #[true, true, true, true, true, true, true, true, true, true, true, true, true, true, true, false, false, true, false, true, false, false, false, false, false] rfl rfl (take_ofW HT_.out HW_.out (by kernel_rfl)) (fun _ _ _ h => h) (Or.inl ⟨by rfl, ?_⟩) hHeld ?_ ?_
                     rotate_left
                     · rintro w' ⟨s0, s1, s2, s3, s4, s5, s6, s7, s8, s9, s10, s11, s12, s13, s14, s15, s16, s17, s18, s19⟩
                       go_simp
                       with_reducible rfl
                     rotate_left
                     · simp only [Act.put, sT, sZ, sS, i64_w, i32_w]
                       rfl
                     refine take_ (i := 15) (N := some 96) (v := ?_) (a' := ?_) #[true, true, true, true, true, true, true, true, true, true, true, true, true, true, true, true, false, true, false, true, false, false, false, false, false] rfl rfl (take_ofW HT_.out HW_.out (by kernel_rfl)) (fun _ _ _ h => h) (Or.inl ⟨by rfl, ?_⟩) hHeld ?_ ?_
                     rotate_left
                     · rintro w' ⟨s0, s1, s2, s3, s4, s5, s6, s7, s8, s9, s10, s11, s12, s13, s14, s15, s16, s17, s18, s19⟩
                       go_simp
                       with_reducible rfl
                     rotate_left
                     · simp only [Act.put, sT, sZ, sS, i64_w, i32_w]
                       rfl
                     refine take_ (i := 18) (N := some 99) (v := ?_) (a' := ?_) #[true, true, true, true, true, true, true, true, true, true, true, true, true, true, true, true, false, true, true, true, false, false, false, false, false] rfl rfl (take_ofW HT_.out HW_.out (by kernel_rfl)) (fun _ _ _ h => h) (Or.inl ⟨by rfl, ?_⟩) hHeld ?_ ?_
                     rotate_left
                     · rintro w' ⟨s0, s1, s2, s3, s4, s5, s6, s7, s8, s9, s10, s11, s12, s13, s14, s15, s16, s17, s18, s19⟩
                       go_simp
                       with_reducible rfl
                     rotate_left
                     · simp only [Act.put, sT, sZ, sS, i64_w, i32_w]
                       rfl
                     refine take_ (i := 20) (N := some 101) (v := ?_) (a' := ?_) #[true, true, true, true, true, true, true, true, true, true, true, true, true, true, true, true, false, true, true, true, true, false, false, false, false] rfl rfl (take_ofW HT_.out HW_.out (by kernel_rfl)) (fun _ _ _ h => h) (Or.inl ⟨by rfl, ?_⟩) hHeld ?_ ?_
                     rotate_left
                     · rintro w' ⟨s0, s1, s2, s3, s4, s5, s6, s7, s8, s9, s10, s11, s12, s13, s14, s15, s16, s17, s18, s19⟩
                       go_simp
                       with_reducible rfl
                     rotate_left
                     · simp only [Act.put, sT, sZ, sS, i64_w, i32_w]
                       rfl
                     refine one_ (i := 16) (N := some 97) (tf 21 4) rfl rfl (one_of HT_.out (by kernel_rfl)) (by decide) (fun K hK => ?_)
                     refine goes_ Try.func40 (by kernel_rfl) rfl #[.slice Ao83 y375.length co83, .slice A1_3 l1_3.length c1_3] (by rfl) rfl rfl (by (try simp only [List.map_toArray, List.map_cons, List.map_nil]); first | done | rfl | (simp only [List.length_drop, List.length_take]; rfl)) ?_
                     with_reducible refine (cond_TakesComms.calls _ _ y375 _ _ l1_3 t380 _ ?side1 ?side2 ?side3 ?side4 A61.out).mono ?_
                     (case side1 => repeat (first | exact (Kd.N_reads' HO377.out).2.2 | (with_reducible refine Kd.C_alloc ?_ _) | (with_reducible refine Kd.C_drewN ?_ _) | (with_reducible refine Kd.C_drew ?_)))
                     (case side2 => exact (Kd.N_reads' HO377.out).2.1)
                     (case side3 => repeat (first | exact (Kd.C_below HR1_3.out HB.out) | (with_reducible refine Kd.C_alloc ?_ _) | (with_reducible refine Kd.C_drewN ?_ _) | (with_reducible refine Kd.C_drew ?_)))
                     (case side4 => exact HC1_3.out)
                     rintro e w89 ⟨rfl, hb⟩
                     refine ⟨_, rfl, ?_⟩
                     have n0_ := aM (Kd.R_below (uk_ HO_361001.out) hb)
                     have n1_ := aM (Kd.N_below (by (with_reducible repeat (first | apply Kd.N_alloc | apply Kd.N_drewN | apply Kd.N_drew)); exact HO374.out) hb)
                     have n2_ := aM (Kd.N_below (by (with_reducible repeat (first | apply Kd.N_alloc | apply Kd.N_drewN | apply Kd.N_drew)); exact HO377.out) hb)
                     have n3_ := aM (blk_below (g := gb343) (o := .cells #[.int .i64 a0_0, .slice A0_1 l0_1.length c0_1, .slice A0_2 l0_2.length c0_2, .slice A0_3 l0_3.length c0_3, .int .u32 a0_4, .int .u32 a0_5] 46 (0, 0)) (up_ BK343.out) hb)
                     have n4_ := aM (blk_below (g := gb344) (o := .cells #[.int .u32 a1_0, .int .i64 a1_1, .slice A1_2 l1_2.length c1_2, .slice A1_3 l1_3.length c1_3, .int .u32 a1_4, .int .u32 a1_5, .int .i64 a1_6, .int .u32 a1_7] 50 (0, 0)) (up_ BK344.out) hb)
                     have n5_ := aM (blk_below (g := gb360) (o := .cells #[.int .i64 t348, .slice Ao36 t349.length co36, .slice Ao80 y372.length co80, .slice Ao83 y375.length co83, .int .u32 t358, .int .u32 t359] 46 (0, 0)) (up_ BK360.out) hb)
                     have n6_ := aM (blk_below (g := gb371) (o := .cells #[.int .i64 4, .slice none 0 0, .slice Ao68 y368.length co68] 25 (0, 0)) (up_ BK371.out) hb)
                     have n7_ := aM (below_step (by repeat (first | (with_reducible first | exact HB.out | apply blA | apply blN | apply blD | refine bS ?_ GE343.out | refine bS ?_ GE344.out | refine bS ?_ GE360.out | refine bS ?_ GE371.out) | exact HB.out)) hb)
                     clear HO_361001
                     clear HO374
                     clear HO377
                     clear BK343
                     clear BK344
                     clear BK360
                     clear BK371
                     clear HB
                     have HO_361001 := n0_
                     have HO374 := n1_
                     have HO377 := n2_
                     have BK343 := n3_
                     have BK344 := n4_
                     have BK360 := n5_
                     have BK371 := n6_
                     have HB := n7_
                     clear n0_ n1_ n2_ n3_ n4_ n5_ n6_ n7_
                     (try clear hb)
                     (try clear hb2)
                     (try clear hk)
                     (try clear hi)
                     refine hK.out _ _ ⟨(blk_cell BK360.out 0).trans rfl, (blk_cell BK360.out 1).trans rfl, (blk_cell BK360.out 2).trans rfl, (blk_cell BK360.out 3).trans rfl, (blk_cell BK360.out 4).trans rfl, (blk_cell BK360.out 5).trans rfl, (blk_cell BK344.out 0).trans rfl, (blk_cell BK344.out 1).trans rfl, (blk_cell BK344.out 2).trans rfl, (blk_cell BK344.out 3).trans rfl, (blk_cell BK344.out 4).trans rfl, (blk_cell BK344.out 5).trans rfl, (blk_cell BK344.out 6).trans rfl, (blk_cell BK344.out 7).trans rfl, (blk_cell BK343.out 0).trans rfl, (blk_cell BK343.out 1).trans rfl, (blk_cell BK343.out 2).trans rfl, (blk_cell BK343.out 3).trans rfl, (blk_cell BK343.out 4).trans rfl, (blk_cell BK343.out 5).trans rfl⟩ (fun hHeld => ?_)
                     clear hK K
                     refine norm_ (a' := ?_) ?_ ?_
                     rotate_left
                     · show Act.put _ (some 97) _ = _
                       simp only [Act.put, sT, sZ, sS, i64_w, i32_w]
                       rfl
                     refine one_ (i := 21) (N := some 102) (tf 22 3) rfl rfl (one_of HT_.out (by kernel_rfl)) (by decide) (fun K hK => ?_)
                     refine goes_ Try.func40 (by kernel_rfl) rfl #[.slice A0_3 l0_3.length c0_3, .slice A1_3 l1_3.length c1_3] (by rfl) rfl rfl (by (try simp only [List.map_toArray, List.map_cons, List.map_nil]); first | done | rfl | (simp only [List.length_drop, List.length_take]; rfl)) ?_
                     with_reducible refine (cond_TakesComms.calls _ _ l0_3 _ _ l1_3 t381 _ ?side1 ?side2 ?side3 ?side4 A62.out).mono ?_
                     (case side1 => repeat (first | exact (Kd.C_below HR0_3.out HB.out) | (with_reducible refine Kd.C_alloc ?_ _) | (with_reducible refine Kd.C_drewN ?_ _) | (with_reducible refine Kd.C_drew ?_)))
                     (case side2 => exact HC0_3.out)
                     (case side3 => repeat (first | exact (Kd.C_below HR1_3.out HB.out) | (with_reducible refine Kd.C_alloc ?_ _) | (with_reducible refine Kd.C_drewN ?_ _) | (with_reducible refine Kd.C_drew ?_)))
                     (case side4 => exact HC1_3.out)
                     rintro e w90 ⟨rfl, hb⟩
                     refine ⟨_, rfl, ?_⟩
                     have n0_ := aM (Kd.R_below (uk_ HO_361001.out) hb)
                     have n1_ := aM (Kd.N_below (by (with_reducible repeat (first | apply Kd.N_alloc | apply Kd.N_drewN | apply Kd.N_drew)); exact HO374.out) hb)
                     have n2_ := aM (Kd.N_below (by (with_reducible repeat (first | apply Kd.N_alloc | apply Kd.N_drewN | apply Kd.N_drew)); exact HO377.out) hb)
                     have n3_ := aM (blk_below (g := gb343) (o := .cells #[.int .i64 a0_0, .slice A0_1 l0_1.length c0_1, .slice A0_2 l0_2.length c0_2, .slice A0_3 l0_3.length c0_3, .int .u32 a0_4, .int .u32 a0_5] 46 (0, 0)) (up_ BK343.out) hb)
                     have n4_ := aM (blk_below (g := gb344) (o := .cells #[.int .u32 a1_0, .int .i64 a1_1, .slice A1_2 l1_2.length c1_2, .slice A1_3 l1_3.length c1_3, .int .u32 a1_4, .int .u32 a1_5, .int .i64 a1_6, .int .u32 a1_7] 50 (0, 0)) (up_ BK344.out) hb)
                     have n5_ := aM (blk_below (g := gb360) (o := .cells #[.int .i64 t348, .slice Ao36 t349.length co36, .slice Ao80 y372.length co80, .slice Ao83 y375.length co83, .int .u32 t358, .int .u32 t359] 46 (0, 0)) (up_ BK360.out) hb)
                     have n6_ := aM (blk_below (g := gb371) (o := .cells #[.int .i64 4, .slice none 0 0, .slice Ao68 y368.length co68] 25 (0, 0)) (up_ BK371.out) hb)
                     have n7_ := aM (below_step (by repeat (first | (with_reducible first | exact HB.out | apply blA | apply blN | apply blD | refine bS ?_ GE343.out | refine bS ?_ GE344.out | refine bS ?_ GE360.out | refine bS ?_ GE371.out) | exact HB.out)) hb)
                     clear HO_361001
                     clear HO374
                     clear HO377
                     clear BK343
                     clear BK344
                     clear BK360
                     clear BK371
                     clear HB
                     have HO_361001 := n0_
                     have HO374 := n1_
                     have HO377 := n2_
                     have BK343 := n3_
                     have BK344 := n4_
                     have BK360 := n5_
                     have BK371 := n6_
                     have HB := n7_
                     clear n0_ n1_ n2_ n3_ n4_ n5_ n6_ n7_
                     (try clear hb)
                     (try clear hb2)
                     (try clear hk)
                     (try clear hi)
                     refine hK.out _ _ ⟨(blk_cell BK360.out 0).trans rfl, (blk_cell BK360.out 1).trans rfl, (blk_cell BK360.out 2).trans rfl, (blk_cell BK360.out 3).trans rfl, (blk_cell BK360.out 4).trans rfl, (blk_cell BK360.out 5).trans rfl, (blk_cell BK344.out 0).trans rfl, (blk_cell BK344.out 1).trans rfl, (blk_cell BK344.out 2).trans rfl, (blk_cell BK344.out 3).trans rfl, (blk_cell BK344.out 4).trans rfl, (blk_cell BK344.out 5).trans rfl, (blk_cell BK344.out 6).trans rfl, (blk_cell BK344.out 7).trans rfl, (blk_cell BK343.out 0).trans rfl, (blk_cell BK343.out 1).trans rfl, (blk_cell BK343.out 2).trans rfl, (blk_cell BK343.out 3).trans rfl, (blk_cell BK343.out 4).trans rfl, (blk_cell BK343.out 5).trans rfl⟩ (fun hHeld => ?_)
                     clear hK K
                     refine norm_ (a' := ?_) ?_ ?_
                     rotate_left
                     · show Act.put _ (some 102) _ = _
                       simp only [Act.put, sT, sZ, sS, i64_w, i32_w]
                       rfl
                     refine pure_ (i := 22) (N := some 103) (v := ?_) (a' := ?_) (tf 23 2) rfl rfl (any_of HT_.out (by kernel_rfl)) (fun _ _ _ h => h) (Or.inl ⟨by rfl, ?_⟩) ?_ ?_
                     rotate_left
                     · intro w'
                       go_simp
                       with_reducible rfl
                     rotate_left
                     · simp only [Act.put, sT, sZ, sS, i64_w, i32_w]
                       rfl
                     refine pure_ (i := 23) (N := some 104) (v := ?_) (a' := ?_) (tf 24 1) rfl rfl (any_of HT_.out (by kernel_rfl)) (fun _ _ _ h => h) (Or.inl ⟨by rfl, ?_⟩) ?_ ?_
                     rotate_left
                     · intro w'
                       go_simp
                       with_reducible rfl
                     rotate_left
                     · simp only [Act.put, sT, sZ, sS, i64_w, i32_w]
                       rfl
                     refine pure_ (i := 24) (N := some 4) (v := ?_) (a' := ?_) (tf 25 0) rfl rfl (any_of HT_.out (by kernel_rfl)) (fun _ _ _ h => h) (Or.inl ⟨by rfl, ?_⟩) ?_ ?_
                     rotate_left
                     · intro w'
                       go_simp
                       with_reducible rfl
                     rotate_left
                     · simp only [Act.put, sT, sZ, sS, i64_w, i32_w]
                       rfl
                     refine done_ (done_of HT_.out (by kernel_rfl)) ?_
                     try go_wp2
                     first | go_ret | refine ⟨_, results_tmp rfl _ _ _, ?_⟩
                     exact ⟨by first | rfl | (simp [errW_none, errW_some] <;> rfl) | (simp [*, errW_none, errW_some] <;> rfl), by repeat (first | (with_reducible first | exact HB.out | apply blA | apply blN | apply blD | refine bS ?_ GE343.out | refine bS ?_ GE344.out | refine bS ?_ GE360.out | refine bS ?_ GE371.out) | exact HB.out)⟩
                   · rw [if_neg c60] at H
                     exact absurd H (by simp)
                 · rw [if_neg c57] at H
                   exact absurd H (by simp)
               · rw [if_neg c56] at H
                 exact absurd H (by simp)
 · replace c4 := Bool.eq_false_iff.mpr c4
   subst c4
   have H1 : (none) = some r := by rw [if_neg (show ¬ (false = true) by decide)] at H; exact H
   clear H
   have H := H1
   clear H1
   exact absurd H (by simp)
end Go.Proofs.Ytlkjfjlmjgkheaa.H
