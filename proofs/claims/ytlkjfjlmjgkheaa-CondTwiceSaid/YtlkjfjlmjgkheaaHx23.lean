import Derived.Test.YtlkjfjlmjgkheaaHx0
import Derived.Test.YtlkjfjlmjgkheaaHx8
import Derived.Test.YtlkjfjlmjgkheaaHx9
import Derived.Test.YtlkjfjlmjgkheaaHx11
import Derived.Test.YtlkjfjlmjgkheaaHx12
import Derived.Test.YtlkjfjlmjgkheaaHx21
namespace Go.Proofs.Ytlkjfjlmjgkheaa.H
open Go.RowKit Go.Proofs.YtlkjfjlmjgkheaaW.PrintWords Go.Proofs.YtlkjfjlmjgkheaaW.PrintLast Go.Proofs.YtlkjfjlmjgkheaaW.PrintMore
attribute [local go_sem] max2_int min2_int max_two min_two max_three min_three max_four min_four
set_option linter.unusedVariables false
set_option linter.unusedSimpArgs false
mutual
def dragomanlaw11_CondTwice.j0 : Nat → Int → Bool → Int → List (S83) → List (S61) → List (S64) → Int → Int → Int → Int → List Int → List Int → Int → Int → Int → Int → Option (Bool)
 | 0, _, _, _, _, _, _, _, _, _, _, _, _, _, _, _, _ => none
 | k + 1, x2, x17, x383000, x383001, x383002, x383003, x383004, x383005, x384000, x384001, x384002, x384003, x384004, x384005, x384006, x384007 => if x17 = true then (some true) else ((dragomanref11_Copy.f k x383000 x383001 x383002 x383003 x383004 x383005).bind fun bt387 => (if (x383002.length : Int) > 0 then (if (x383002.length : Int) = 0 then (none) else (if 0 ≤ (Int.tmod (wrap64 (x2)) (x383002.length : Int)) then (if (Int.tmod (wrap64 (x2)) (x383002.length : Int)) < (bt387.2.2.1.length : Int) then (if bt387.2.2.1.length < 2199023255552 then (dragomanlaw11_CondTwice.j1 k x2 x383000 x383001 x383002 x383003 x383004 x383005 x384000 x384001 x384002 x384003 x384004 x384005 x384006 x384007 bt387.1 bt387.2.1 (bt387.2.2.1 ++ [(⟨(rd_T61 bt387.2.2.1 (Int.tmod (wrap64 (x2)) (x383002.length : Int))).f0, (⟨(rd_T61 bt387.2.2.1 (Int.tmod (wrap64 (x2)) (x383002.length : Int))).f1.f0, (rd_T61 bt387.2.2.1 (Int.tmod (wrap64 (x2)) (x383002.length : Int))).f1.f1, (rd_T61 bt387.2.2.1 (Int.tmod (wrap64 (x2)) (x383002.length : Int))).f1.f2⟩ : S25)⟩ : S61)]) bt387.2.2.2.1 bt387.2.2.2.2.1 bt387.2.2.2.2.2) else (none)) else (none)) else (none))) else (dragomanlaw11_CondTwice.j1 k x2 x383000 x383001 x383002 x383003 x383004 x383005 x384000 x384001 x384002 x384003 x384004 x384005 x384006 x384007 bt387.1 bt387.2.1 bt387.2.2.1 bt387.2.2.2.1 bt387.2.2.2.2.1 bt387.2.2.2.2.2)))
def dragomanlaw11_CondTwice.j1 : Nat → Int → Int → List (S83) → List (S61) → List (S64) → Int → Int → Int → Int → List Int → List Int → Int → Int → Int → Int → Int → List (S83) → List (S61) → List (S64) → Int → Int → Option (Bool)
 | 0, _, _, _, _, _, _, _, _, _, _, _, _, _, _, _, _, _, _, _, _, _ => none
 | k + 1, x2, x383000, x383001, x383002, x383003, x383004, x383005, x384000, x384001, x384002, x384003, x384004, x384005, x384006, x384007, x400000, x400001, x400002, x400003, x400004, x400005 => if (x383003.length : Int) > 0 then (if (x383003.length : Int) = 0 then (none) else (if 0 ≤ (Int.tmod (wrap64 (x2)) (x383003.length : Int)) then (if (Int.tmod (wrap64 (x2)) (x383003.length : Int)) < (x400003.length : Int) then (if x400003.length < 4398046511104 then (dragomanlaw11_CondTwice.j2 k x383000 x383001 x383002 x383003 x383004 x383005 x384000 x384001 x384002 x384003 x384004 x384005 x384006 x384007 x400000 x400001 x400002 (x400003 ++ [(⟨(rd_T64 x400003 (Int.tmod (wrap64 (x2)) (x383003.length : Int))).f0, (rd_T64 x400003 (Int.tmod (wrap64 (x2)) (x383003.length : Int))).f1⟩ : S64)]) x400004 x400005) else (none)) else (none)) else (none))) else (dragomanlaw11_CondTwice.j2 k x383000 x383001 x383002 x383003 x383004 x383005 x384000 x384001 x384002 x384003 x384004 x384005 x384006 x384007 x400000 x400001 x400002 x400003 x400004 x400005)
def dragomanlaw11_CondTwice.j2 : Nat → Int → List (S83) → List (S61) → List (S64) → Int → Int → Int → Int → List Int → List Int → Int → Int → Int → Int → Int → List (S83) → List (S61) → List (S64) → Int → Int → Option (Bool)
 | 0, _, _, _, _, _, _, _, _, _, _, _, _, _, _, _, _, _, _, _, _ => none
 | k + 1, x383000, x383001, x383002, x383003, x383004, x383005, x384000, x384001, x384002, x384003, x384004, x384005, x384006, x384007, x400000, x400001, x400002, x400003, x400004, x400005 => dragomanlaw11_CondTwice.l0 k ([] : List Int) (wrap64 ((x384003.length : Int) - 1)) x383000 x383001 x383002 x383003 x383004 x383005 x384000 x384001 x384002 x384003 x384004 x384005 x384006 x384007 x400000 x400001 x400002 x400003 x400004 x400005
def dragomanlaw11_CondTwice.l0 : Nat → List Int → Int → Int → List (S83) → List (S61) → List (S64) → Int → Int → Int → Int → List Int → List Int → Int → Int → Int → Int → Int → List (S83) → List (S61) → List (S64) → Int → Int → Option (Bool)
 | 0, _, _, _, _, _, _, _, _, _, _, _, _, _, _, _, _, _, _, _, _, _, _ => none
 | k + 1, x8, x9, x383000, x383001, x383002, x383003, x383004, x383005, x384000, x384001, x384002, x384003, x384004, x384005, x384006, x384007, x400000, x400001, x400002, x400003, x400004, x400005 => if x9 ≥ 0 then (if 0 ≤ x9 then (if x9 < (x384003.length : Int) then ((some (([rd x384003 x9, rd x384003 x9] : List Int) : List Int)).bind fun y410 => (if x8.length + y410.length < 35184372088832 then (dragomanlaw11_CondTwice.l0 k (x8 ++ y410) (wrap64 (x9 - 1)) x383000 x383001 x383002 x383003 x383004 x383005 x384000 x384001 x384002 x384003 x384004 x384005 x384006 x384007 x400000 x400001 x400002 x400003 x400004 x400005) else (none))) else (none)) else (none)) else ((cond_TakesPath.f k x400002 x384002).bind fun t416 => ((cond_TakesPath.f k x383002 x384002).bind fun t417 => (if (t416 == t417) = true then ((cond_TakesComms.f x400003 x8).bind fun t418 => ((cond_TakesComms.f x383003 x384003).bind fun t419 => (some (t418 == t419)))) else (none))))
end
def dragomanlaw11_CondTwice.f (k : Nat) (a0_0 : Int) (l0_1 : List (S83)) (l0_2 : List (S61)) (l0_3 : List (S64)) (a0_4 : Int) (a0_5 : Int) (a1_0 : Int) (a1_1 : Int) (l1_2 : List Int) (l1_3 : List Int) (a1_4 : Int) (a1_5 : Int) (a1_6 : Int) (a1_7 : Int) (a2 : Int) : Option (Bool) := (dragomanlaw11_alive.f k).bind fun t384 => (if t384 = true then ((dragomanref11_Great.f k a0_0 l0_1 l0_2 l0_3 a0_4 a0_5).bind fun t385 => (if t385 = true then (dragomanlaw11_CondTwice.j0 k a2 true a0_0 l0_1 l0_2 l0_3 a0_4 a0_5 a1_0 a1_1 l1_2 l1_3 a1_4 a1_5 a1_6 a1_7) else ((r3_Great.f a1_0 a1_1 l1_2 l1_3 a1_4 a1_5 a1_6 a1_7).bind fun t386 => (dragomanlaw11_CondTwice.j0 k a2 t386 a0_0 l0_1 l0_2 l0_3 a0_4 a0_5 a1_0 a1_1 l1_2 l1_3 a1_4 a1_5 a1_6 a1_7)))) else (none))
def dragomanlaw11_CondTwice.T7 : Bool × List (List Nat × List Nat) := (true, [([], []), ([0], [0]), ([], []), ([2], [2]), ([], []), ([4], [4]), ([], []), ([6], [6]), ([7], [7]), ([5, 8], [5, 8]), ([3, 9], [3, 9]), ([10], [10]), ([11], [11]), ([1, 12], [1, 12]), ([0, 1, 2, 3, 4, 5, 6, 7, 8, 9, 10, 11, 12, 13], []), ([14, 13, 13, 0, 1, 2, 3, 4, 5, 6, 7, 8, 9, 10, 11, 12, 13], [13, 14])])
def dragomanlaw11_CondTwice.B7 : List Nat := [0, 1, 0, 4, 0, 16, 0, 64, 192, 496, 1020, 2044, 4092, 8191, 16383, 32767]
theorem dragomanlaw11_CondTwice.tab7 : rtab .any (opsOf Try.f11 7) = dragomanlaw11_CondTwice.T7 := by kernel_rfl
theorem dragomanlaw11_CondTwice.bits7 : waitsOk dragomanlaw11_CondTwice.T7.2 dragomanlaw11_CondTwice.B7 = true := by kernel_rfl
def dragomanlaw11_CondTwice.T9 : Bool × List (List Nat × List Nat) := (true, [([], []), ([0], [0]), ([], []), ([2], [2]), ([], []), ([4], [4]), ([], []), ([6], [6]), ([7], [7]), ([5, 8], [5, 8]), ([3, 9], [3, 9]), ([10], [10]), ([11], [11]), ([1, 12], [1, 12]), ([0, 1, 2, 3, 4, 5, 6, 7, 8, 9, 10, 11, 12, 13], []), ([14, 13, 13, 0, 1, 2, 3, 4, 5, 6, 7, 8, 9, 10, 11, 12, 13], [13, 14])])
def dragomanlaw11_CondTwice.B9 : List Nat := [0, 1, 0, 4, 0, 16, 0, 64, 192, 496, 1020, 2044, 4092, 8191, 16383, 32767]
theorem dragomanlaw11_CondTwice.tab9 : rtab .any (opsOf Try.f11 9) = dragomanlaw11_CondTwice.T9 := by kernel_rfl
theorem dragomanlaw11_CondTwice.bits9 : waitsOk dragomanlaw11_CondTwice.T9.2 dragomanlaw11_CondTwice.B9 = true := by kernel_rfl
def dragomanlaw11_CondTwice.T14 : Bool × List (List Nat × List Nat) := (true, [([], []), ([], []), ([1], [1]), ([], []), ([2, 3], [2, 3]), ([4], [4]), ([], []), ([6], [6]), ([], []), ([7, 8], [7, 8]), ([9], [9]), ([5, 10], [5, 10]), ([0, 11], [0, 11]), ([12, 12, 0, 1, 2, 3, 4, 5, 6, 7, 8, 9, 10, 11, 12], [0, 12])])
def dragomanlaw11_CondTwice.B14 : List Nat := [0, 0, 2, 0, 14, 30, 0, 64, 0, 448, 960, 2046, 4095, 8191]
theorem dragomanlaw11_CondTwice.tab14 : rtab .any (opsOf Try.f11 14) = dragomanlaw11_CondTwice.T14 := by kernel_rfl
theorem dragomanlaw11_CondTwice.bits14 : waitsOk dragomanlaw11_CondTwice.T14.2 dragomanlaw11_CondTwice.B14 = true := by kernel_rfl
def dragomanlaw11_CondTwice.T15 : Bool × List (List Nat × List Nat) := (true, [([], []), ([0], [0]), ([], []), ([2], [2]), ([1, 3], [1, 3]), ([], []), ([5], [5]), ([], []), ([7], [7]), ([6, 8, 4], [6, 8]), ([4, 9], [4, 9]), ([10, 9], [10]), ([11], [11]), ([12, 11], [11, 12]), ([11], [11]), ([13, 14, 11, 11], [11, 13, 14]), ([11], [11]), ([16, 11], [11, 16]), ([11], [11]), ([18, 11], [11, 18]), ([17, 19, 15, 11], [11, 17, 19]), ([15, 20, 11], [11, 15, 20]), ([11, 21], [11, 21]), ([22, 20, 0, 1, 2, 3, 4, 5, 6, 7, 8, 9, 10, 11, 12, 13, 14, 15, 16, 17, 18, 19, 20, 21, 22], [22])])
def dragomanlaw11_CondTwice.B15 : List Nat := [0, 1, 0, 4, 15, 0, 32, 0, 128, 511, 1023, 2047, 4095, 8191, 4095, 32767, 4095, 69631, 4095, 266239, 1048575, 2097151, 4194303, 8388607]
theorem dragomanlaw11_CondTwice.tab15 : rtab .any (opsOf Try.f11 15) = dragomanlaw11_CondTwice.T15 := by kernel_rfl
theorem dragomanlaw11_CondTwice.bits15 : waitsOk dragomanlaw11_CondTwice.T15.2 dragomanlaw11_CondTwice.B15 = true := by kernel_rfl
set_option maxHeartbeats 8000000 in
set_option maxRecDepth 100000 in
theorem dragomanlaw11_CondTwice.calls (k : Nat) (a0_0 : Int) (A0_1 : Option Addr) (c0_1 : Nat) (l0_1 : List (S83)) (A0_2 : Option Addr) (c0_2 : Nat) (l0_2 : List (S61)) (A0_3 : Option Addr) (c0_3 : Nat) (l0_3 : List (S64)) (a0_4 : Int) (a0_5 : Int) (a1_0 : Int) (a1_1 : Int) (A1_2 : Option Addr) (c1_2 : Nat) (l1_2 : List Int) (A1_3 : Option Addr) (c1_3 : Nat) (l1_3 : List Int) (a1_4 : Int) (a1_5 : Int) (a1_6 : Int) (a1_7 : Int) (a2 : Int) (r : Bool) (w : World) (hr0_1 : Kd.C k83 w A0_1 l0_1.length l0_1) (hc0_1 : l0_1.length ≤ c0_1) (hr0_2 : Kd.C k61 w A0_2 l0_2.length l0_2) (hc0_2 : l0_2.length ≤ c0_2) (hr0_3 : Kd.C k64 w A0_3 l0_3.length l0_3) (hc0_3 : l0_3.length ≤ c0_3) (hr1_2 : Kd.C (Kd.int .u32) w A1_2 l1_2.length l1_2) (hc1_2 : l1_2.length ≤ c1_2) (hr1_3 : Kd.C (Kd.int .u32) w A1_3 l1_3.length l1_3) (hc1_3 : l1_3.length ≤ c1_3) (h : dragomanlaw11_CondTwice.f k a0_0 l0_1 l0_2 l0_3 a0_4 a0_5 a1_0 a1_1 l1_2 l1_3 a1_4 a1_5 a1_6 a1_7 a2 = some r) :
 Calls Try.prog 11 #[.agg #[.int .i64 a0_0, .slice A0_1 l0_1.length c0_1, .slice A0_2 l0_2.length c0_2, .slice A0_3 l0_3.length c0_3, .int .u32 a0_4, .int .u32 a0_5], .agg #[.int .u32 a1_0, .int .i64 a1_1, .slice A1_2 l1_2.length c1_2, .slice A1_3 l1_3.length c1_3, .int .u32 a1_4, .int .u32 a1_5, .int .i64 a1_6, .int .u32 a1_7], .int .u8 a2] w fun e w' => e = .returned (.bool r) ∧ Below w.heap.size w w' := by
 have hu46 := Try.underlying46
 have hu50 := Try.underlying50
 have hu61 := Try.underlying61
 have hu64 := Try.underlying64
 have HR0_1 := aM hr0_1
 have HC0_1 := aM hc0_1
 clear hr0_1 hc0_1
 have HR0_2 := aM hr0_2
 have HC0_2 := aM hc0_2
 clear hr0_2 hc0_2
 have HR0_3 := aM hr0_3
 have HC0_3 := aM hc0_3
 clear hr0_3 hc0_3
 have HR1_2 := aM hr1_2
 have HC1_2 := aM hc1_2
 clear hr1_2 hc1_2
 have HR1_3 := aM hr1_3
 have HC1_3 := aM hc1_3
 clear hr1_3 hc1_3
 have HB := aM (Below.refl w.heap.size w)
 have H : ((dragomanlaw11_alive.f k).bind fun t384 => (if t384 = true then ((dragomanref11_Great.f k a0_0 l0_1 l0_2 l0_3 a0_4 a0_5).bind fun t385 => (if t385 = true then (dragomanlaw11_CondTwice.j0 k a2 true a0_0 l0_1 l0_2 l0_3 a0_4 a0_5 a1_0 a1_1 l1_2 l1_3 a1_4 a1_5 a1_6 a1_7) else ((r3_Great.f a1_0 a1_1 l1_2 l1_3 a1_4 a1_5 a1_6 a1_7).bind fun t386 => (dragomanlaw11_CondTwice.j0 k a2 t386 a0_0 l0_1 l0_2 l0_3 a0_4 a0_5 a1_0 a1_1 l1_2 l1_3 a1_4 a1_5 a1_6 a1_7)))) else (none))) = some r := h
 clear h
 replace H := Option.bind_eq_some_iff.mp H
 obtain ⟨t384, A40, H⟩ := H
 replace H : (if t384 = true then ((dragomanref11_Great.f k a0_0 l0_1 l0_2 l0_3 a0_4 a0_5).bind fun t385 => (if t385 = true then (dragomanlaw11_CondTwice.j0 k a2 true a0_0 l0_1 l0_2 l0_3 a0_4 a0_5 a1_0 a1_1 l1_2 l1_3 a1_4 a1_5 a1_6 a1_7) else ((r3_Great.f a1_0 a1_1 l1_2 l1_3 a1_4 a1_5 a1_6 a1_7).bind fun t386 => (dragomanlaw11_CondTwice.j0 k a2 t386 a0_0 l0_1 l0_2 l0_3 a0_4 a0_5 a1_0 a1_1 l1_2 l1_3 a1_4 a1_5 a1_6 a1_7)))) else (none)) = some r := H
 have A4 := aM A40
 clear A40
 by_cases c5 : t384 = true
 · subst c5
   have H1 : ((dragomanref11_Great.f k a0_0 l0_1 l0_2 l0_3 a0_4 a0_5).bind fun t385 => (if t385 = true then (dragomanlaw11_CondTwice.j0 k a2 true a0_0 l0_1 l0_2 l0_3 a0_4 a0_5 a1_0 a1_1 l1_2 l1_3 a1_4 a1_5 a1_6 a1_7) else ((r3_Great.f a1_0 a1_1 l1_2 l1_3 a1_4 a1_5 a1_6 a1_7).bind fun t386 => (dragomanlaw11_CondTwice.j0 k a2 t386 a0_0 l0_1 l0_2 l0_3 a0_4 a0_5 a1_0 a1_1 l1_2 l1_3 a1_4 a1_5 a1_6 a1_7)))) = some r := by rw [if_pos rfl] at H; exact H
   clear H
   have H := H1
   clear H1
   have HC6 := aM H
   clear H
   go_enter Try.func11, Try.ntmps11
   go_upto_region 3 with (first | ((with_reducible refine gate_dst (N := 3) rfl ?_); refine box_event ?hg (N := 3) ?hd (cs := #[.int .i64 a0_0, .slice A0_1 l0_1.length c0_1, .slice A0_2 l0_2.length c0_2, .slice A0_3 l0_3.length c0_3, .int .u32 a0_4, .int .u32 a0_5]) (t := 46) ?hr ?_; (case hd => rfl); (case hg => rfl); (case hr => first | (go_simp; done) | (go_simp; rfl)); intro gb382 hg w7 hbox hb; have n0_ := aM (below_step (by repeat (first | (with_reducible first | exact HB.out | apply blA | apply blN | apply blD) | exact HB.out)) hb); have n1_ := aM (hbox); have n2_ := aM ((by rw [hg]; exact (below_size (by repeat (first | (with_reducible first | exact HB.out | apply blA | apply blN | apply blD) | exact HB.out))) : w.heap.size ≤ gb382)); have n3_ := aM ((by rw [hg]; exact (below_size (by repeat (first | (with_reducible first | exact HB.out | apply blA | apply blN | apply blD) | exact HB.out))) : w.heap.size ≤ gb382)); clear HB; have HB := n0_; have BK382 := n1_; have GW382 := n2_; have GE382 := n3_; clear n0_ n1_ n2_ n3_; clear hb hbox hg) | ((with_reducible refine gate_dst (N := 4) rfl ?_); refine box_event ?hg (N := 4) ?hd (cs := #[.int .u32 a1_0, .int .i64 a1_1, .slice A1_2 l1_2.length c1_2, .slice A1_3 l1_3.length c1_3, .int .u32 a1_4, .int .u32 a1_5, .int .i64 a1_6, .int .u32 a1_7]) (t := 50) ?hr ?_; (case hd => rfl); (case hg => rfl); (case hr => first | (go_simp; done) | (go_simp; rfl)); intro gb383 hg w8 hbox hb; have n0_ := aM (blk_below (g := gb382) (o := .cells #[.int .i64 a0_0, .slice A0_1 l0_1.length c0_1, .slice A0_2 l0_2.length c0_2, .slice A0_3 l0_3.length c0_3, .int .u32 a0_4, .int .u32 a0_5] 46 (0, 0)) (up_ BK382.out) hb); have n1_ := aM (below_step (by repeat (first | (with_reducible first | exact HB.out | apply blA | apply blN | apply blD | refine bS ?_ GE382.out) | exact HB.out)) hb); have n2_ := aM (hbox); have n3_ := aM ((by rw [hg]; exact (below_size (by repeat (first | (with_reducible first | exact HB.out | apply blA | apply blN | apply blD | refine bS ?_ GE382.out) | exact HB.out))) : w.heap.size ≤ gb383)); have n4_ := aM ((by rw [hg]; exact (below_size (by repeat (first | (with_reducible first | exact HB.out | apply blA | apply blN | apply blD | refine bS ?_ GE382.out) | exact HB.out))) : w.heap.size ≤ gb383)); have n5_ := aM ((by rw [hg]; exact Nat.ne_of_lt (blk_lt (g := gb382) (o := .cells #[.int .i64 a0_0, .slice A0_1 l0_1.length c0_1, .slice A0_2 l0_2.length c0_2, .slice A0_3 l0_3.length c0_3, .int .u32 a0_4, .int .u32 a0_5] 46 (0, 0)) (up_ BK382.out)) : gb382 ≠ gb383)); have n6_ := aM ((by rw [hg]; exact Nat.ne_of_gt (blk_lt (g := gb382) (o := .cells #[.int .i64 a0_0, .slice A0_1 l0_1.length c0_1, .slice A0_2 l0_2.length c0_2, .slice A0_3 l0_3.length c0_3, .int .u32 a0_4, .int .u32 a0_5] 46 (0, 0)) (up_ BK382.out)) : gb383 ≠ gb382)); clear BK382; clear HB; have BK382 := n0_; have HB := n1_; have BK383 := n2_; have GW383 := n3_; have GE383 := n4_; have NB382_383 := n5_; have NB383_382 := n6_; clear n0_ n1_ n2_ n3_ n4_ n5_ n6_; clear hb hbox hg) | ((with_reducible refine gate_callee (f := 27) rfl ?_); refine goesL_ (some 10) rfl rfl Try.func27 (by kernel_rfl) rfl #[] rfl (by (try simp only [List.map_toArray, List.map_cons, List.map_nil]); first | done | rfl | (simp only [List.length_drop, List.length_take]; rfl)) ?_; (with_reducible refine (dragomanlaw11_alive.calls k  true _ A4.out).mono ?_); rintro e w9 ⟨rfl, hb⟩; refine ⟨_, rfl, ?_⟩; have n0_ := aM (blk_below (g := gb382) (o := .cells #[.int .i64 a0_0, .slice A0_1 l0_1.length c0_1, .slice A0_2 l0_2.length c0_2, .slice A0_3 l0_3.length c0_3, .int .u32 a0_4, .int .u32 a0_5] 46 (0, 0)) (up_ BK382.out) hb); have n1_ := aM (blk_below (g := gb383) (o := .cells #[.int .u32 a1_0, .int .i64 a1_1, .slice A1_2 l1_2.length c1_2, .slice A1_3 l1_3.length c1_3, .int .u32 a1_4, .int .u32 a1_5, .int .i64 a1_6, .int .u32 a1_7] 50 (0, 0)) (up_ BK383.out) hb); have n2_ := aM (below_step (by repeat (first | (with_reducible first | exact HB.out | apply blA | apply blN | apply blD | refine bS ?_ GE382.out | refine bS ?_ GE383.out) | exact HB.out)) hb); clear BK382; clear BK383; clear HB; have BK382 := n0_; have BK383 := n1_; have HB := n2_; clear n0_ n1_ n2_; (try clear hb); (try clear hb2); (try clear hk); (try clear hi)))
   (try simp only [Act.put, sT, sZ, sS])
   go_cut [17] (fun v17 wc => ∃ (kq : Nat) (x17_5 : Bool), v17 = .bool x17_5 ∧ Aside0 (dragomanlaw11_CondTwice.j0 kq a2 x17_5 a0_0 l0_1 l0_2 l0_3 a0_4 a0_5 a1_0 a1_1 l1_2 l1_3 a1_4 a1_5 a1_6 a1_7 = some r) ∧ Aside0 (kq ≤ k) ∧ Aside0 (wc.heap[gb382]? = some (.cells #[.int .i64 a0_0, (.slice A0_1 l0_1.length c0_1), (.slice A0_2 l0_2.length c0_2), (.slice A0_3 l0_3.length c0_3), .int .u32 a0_4, .int .u32 a0_5] 46 (0, 0))) ∧ Aside0 (wc.heap[gb383]? = some (.cells #[.int .u32 a1_0, .int .i64 a1_1, (.slice A1_2 l1_2.length c1_2), (.slice A1_3 l1_3.length c1_3), .int .u32 a1_4, .int .u32 a1_5, .int .i64 a1_6, .int .u32 a1_7] 50 (0, 0))) ∧ Aside0 (Below w.heap.size w wc))
   case first =>
    have H := HC6.out
    clear HC6
    replace H := Option.bind_eq_some_iff.mp H
    obtain ⟨t385, A100, H⟩ := H
    replace H : (if t385 = true then (dragomanlaw11_CondTwice.j0 k a2 true a0_0 l0_1 l0_2 l0_3 a0_4 a0_5 a1_0 a1_1 l1_2 l1_3 a1_4 a1_5 a1_6 a1_7) else ((r3_Great.f a1_0 a1_1 l1_2 l1_3 a1_4 a1_5 a1_6 a1_7).bind fun t386 => (dragomanlaw11_CondTwice.j0 k a2 t386 a0_0 l0_1 l0_2 l0_3 a0_4 a0_5 a1_0 a1_1 l1_2 l1_3 a1_4 a1_5 a1_6 a1_7))) = some r := H
    have A10 := aM A100
    clear A100
    by_cases c11 : t385 = true
    · subst c11
      have H1 : (dragomanlaw11_CondTwice.j0 k a2 true a0_0 l0_1 l0_2 l0_3 a0_4 a0_5 a1_0 a1_1 l1_2 l1_3 a1_4 a1_5 a1_6 a1_7) = some r := by rw [if_pos rfl] at H; exact H
      clear H
      have H := H1
      clear H1
      have H' := aM H
      clear H
      have hnb12 := NB382_383.out
      have hnc12 := NB383_382.out
      have hcz13_0 : w9.cell? ⟨gb382, 0, none⟩ = some (.int .i64 a0_0) := (blk_cell BK382.out 0).trans rfl
      have hcz13_1 : w9.cell? ⟨gb382, 1, none⟩ = some (.slice A0_1 l0_1.length c0_1) := (blk_cell BK382.out 1).trans rfl
      have hcz13_2 : w9.cell? ⟨gb382, 2, none⟩ = some (.slice A0_2 l0_2.length c0_2) := (blk_cell BK382.out 2).trans rfl
      have hcz13_3 : w9.cell? ⟨gb382, 3, none⟩ = some (.slice A0_3 l0_3.length c0_3) := (blk_cell BK382.out 3).trans rfl
      have hcz13_4 : w9.cell? ⟨gb382, 4, none⟩ = some (.int .u32 a0_4) := (blk_cell BK382.out 4).trans rfl
      have hcz13_5 : w9.cell? ⟨gb382, 5, none⟩ = some (.int .u32 a0_5) := (blk_cell BK382.out 5).trans rfl
      have hfz13_0 := bF BK382.out 0
      have hfz13_1 := bF BK382.out 1
      have hfz13_2 := bF BK382.out 2
      have hfz13_3 := bF BK382.out 3
      have hfz13_4 := bF BK382.out 4
      have hfz13_5 := bF BK382.out 5
      go_wp2_with (first | ((with_reducible refine gate_callee (f := 28) rfl ?_); refine goesL_ (some 13) rfl rfl Try.func28 (by kernel_rfl) rfl #[.agg #[.int .i64 a0_0, .slice A0_1 l0_1.length c0_1, .slice A0_2 l0_2.length c0_2, .slice A0_3 l0_3.length c0_3, .int .u32 a0_4, .int .u32 a0_5]] rfl (by (try simp only [List.map_toArray, List.map_cons, List.map_nil]); first | done | rfl | (simp only [List.length_drop, List.length_take]; rfl)) ?_; (with_reducible refine (dragomanref11_Great.calls k a0_0 _ _ l0_1 _ _ l0_2 _ _ l0_3 a0_4 a0_5 true _ ?side1 ?side2 ?side3 ?side4 ?side5 ?side6 A10.out).mono ?_); (case side1 => repeat (first | exact (Kd.C_below HR0_1.out HB.out) | (with_reducible refine Kd.C_alloc ?_ _) | (with_reducible refine Kd.C_drewN ?_ _) | (with_reducible refine Kd.C_drew ?_))); (case side2 => exact HC0_1.out); (case side3 => repeat (first | exact (Kd.C_below HR0_2.out HB.out) | (with_reducible refine Kd.C_alloc ?_ _) | (with_reducible refine Kd.C_drewN ?_ _) | (with_reducible refine Kd.C_drew ?_))); (case side4 => exact HC0_2.out); (case side5 => repeat (first | exact (Kd.C_below HR0_3.out HB.out) | (with_reducible refine Kd.C_alloc ?_ _) | (with_reducible refine Kd.C_drewN ?_ _) | (with_reducible refine Kd.C_drew ?_))); (case side6 => exact HC0_3.out); rintro e w14 ⟨rfl, hb⟩; refine ⟨_, rfl, ?_⟩; have n0_ := aM (blk_below (g := gb382) (o := .cells #[.int .i64 a0_0, .slice A0_1 l0_1.length c0_1, .slice A0_2 l0_2.length c0_2, .slice A0_3 l0_3.length c0_3, .int .u32 a0_4, .int .u32 a0_5] 46 (0, 0)) (up_ BK382.out) hb); have n1_ := aM (blk_below (g := gb383) (o := .cells #[.int .u32 a1_0, .int .i64 a1_1, .slice A1_2 l1_2.length c1_2, .slice A1_3 l1_3.length c1_3, .int .u32 a1_4, .int .u32 a1_5, .int .i64 a1_6, .int .u32 a1_7] 50 (0, 0)) (up_ BK383.out) hb); have n2_ := aM (below_step (by repeat (first | (with_reducible first | exact HB.out | apply blA | apply blN | apply blD | refine bS ?_ GE382.out | refine bS ?_ GE383.out) | exact HB.out)) hb); clear BK382; clear BK383; clear HB; have BK382 := n0_; have BK383 := n1_; have HB := n2_; clear n0_ n1_ n2_; (try clear hb); (try clear hb2); (try clear hk); (try clear hi)))
      go_meet
      case rel => exact ⟨_, (true), (by first | rfl | (simp; done) | (simp [*]; done)), H', ⟨by first | omega | exact Nat.le_refl _⟩, ⟨by (with_reducible repeat (first | apply bkN | apply bkD | apply bkA)); exact BK382.out⟩, ⟨by (with_reducible repeat (first | apply bkN | apply bkD | apply bkA)); exact BK383.out⟩, ⟨by repeat (first | (with_reducible first | exact HB.out | apply blA | apply blN | apply blD | refine bS ?_ GE382.out | refine bS ?_ GE383.out) | exact HB.out)⟩⟩
    · replace c11 := Bool.eq_false_iff.mpr c11
      subst c11
      have H1 : ((r3_Great.f a1_0 a1_1 l1_2 l1_3 a1_4 a1_5 a1_6 a1_7).bind fun t386 => (dragomanlaw11_CondTwice.j0 k a2 t386 a0_0 l0_1 l0_2 l0_3 a0_4 a0_5 a1_0 a1_1 l1_2 l1_3 a1_4 a1_5 a1_6 a1_7)) = some r := by rw [if_neg (show ¬ (false = true) by decide)] at H; exact H
      clear H
      have H := H1
      clear H1
      replace H := Option.bind_eq_some_iff.mp H
      obtain ⟨t386, A150, H⟩ := H
      replace H : (dragomanlaw11_CondTwice.j0 k a2 t386 a0_0 l0_1 l0_2 l0_3 a0_4 a0_5 a1_0 a1_1 l1_2 l1_3 a1_4 a1_5 a1_6 a1_7) = some r := H
      have A15 := aM A150
      clear A150
      have H' := aM H
      clear H
      have hnb16 := NB382_383.out
      have hnc16 := NB383_382.out
      have hcz17_0 : w9.cell? ⟨gb382, 0, none⟩ = some (.int .i64 a0_0) := (blk_cell BK382.out 0).trans rfl
      have hcz17_1 : w9.cell? ⟨gb382, 1, none⟩ = some (.slice A0_1 l0_1.length c0_1) := (blk_cell BK382.out 1).trans rfl
      have hcz17_2 : w9.cell? ⟨gb382, 2, none⟩ = some (.slice A0_2 l0_2.length c0_2) := (blk_cell BK382.out 2).trans rfl
      have hcz17_3 : w9.cell? ⟨gb382, 3, none⟩ = some (.slice A0_3 l0_3.length c0_3) := (blk_cell BK382.out 3).trans rfl
      have hcz17_4 : w9.cell? ⟨gb382, 4, none⟩ = some (.int .u32 a0_4) := (blk_cell BK382.out 4).trans rfl
      have hcz17_5 : w9.cell? ⟨gb382, 5, none⟩ = some (.int .u32 a0_5) := (blk_cell BK382.out 5).trans rfl
      have hfz17_0 := bF BK382.out 0
      have hfz17_1 := bF BK382.out 1
      have hfz17_2 := bF BK382.out 2
      have hfz17_3 := bF BK382.out 3
      have hfz17_4 := bF BK382.out 4
      have hfz17_5 := bF BK382.out 5
      go_wp2_with (first | ((with_reducible refine gate_callee (f := 28) rfl ?_); refine goesL_ (some 13) rfl rfl Try.func28 (by kernel_rfl) rfl #[.agg #[.int .i64 a0_0, .slice A0_1 l0_1.length c0_1, .slice A0_2 l0_2.length c0_2, .slice A0_3 l0_3.length c0_3, .int .u32 a0_4, .int .u32 a0_5]] rfl (by (try simp only [List.map_toArray, List.map_cons, List.map_nil]); first | done | rfl | (simp only [List.length_drop, List.length_take]; rfl)) ?_; (with_reducible refine (dragomanref11_Great.calls k a0_0 _ _ l0_1 _ _ l0_2 _ _ l0_3 a0_4 a0_5 false _ ?side1 ?side2 ?side3 ?side4 ?side5 ?side6 A10.out).mono ?_); (case side1 => repeat (first | exact (Kd.C_below HR0_1.out HB.out) | (with_reducible refine Kd.C_alloc ?_ _) | (with_reducible refine Kd.C_drewN ?_ _) | (with_reducible refine Kd.C_drew ?_))); (case side2 => exact HC0_1.out); (case side3 => repeat (first | exact (Kd.C_below HR0_2.out HB.out) | (with_reducible refine Kd.C_alloc ?_ _) | (with_reducible refine Kd.C_drewN ?_ _) | (with_reducible refine Kd.C_drew ?_))); (case side4 => exact HC0_2.out); (case side5 => repeat (first | exact (Kd.C_below HR0_3.out HB.out) | (with_reducible refine Kd.C_alloc ?_ _) | (with_reducible refine Kd.C_drewN ?_ _) | (with_reducible refine Kd.C_drew ?_))); (case side6 => exact HC0_3.out); rintro e w18 ⟨rfl, hb⟩; refine ⟨_, rfl, ?_⟩; have n0_ := aM (blk_below (g := gb382) (o := .cells #[.int .i64 a0_0, .slice A0_1 l0_1.length c0_1, .slice A0_2 l0_2.length c0_2, .slice A0_3 l0_3.length c0_3, .int .u32 a0_4, .int .u32 a0_5] 46 (0, 0)) (up_ BK382.out) hb); have n1_ := aM (blk_below (g := gb383) (o := .cells #[.int .u32 a1_0, .int .i64 a1_1, .slice A1_2 l1_2.length c1_2, .slice A1_3 l1_3.length c1_3, .int .u32 a1_4, .int .u32 a1_5, .int .i64 a1_6, .int .u32 a1_7] 50 (0, 0)) (up_ BK383.out) hb); have n2_ := aM (below_step (by repeat (first | (with_reducible first | exact HB.out | apply blA | apply blN | apply blD | refine bS ?_ GE382.out | refine bS ?_ GE383.out) | exact HB.out)) hb); clear BK382; clear BK383; clear HB; have BK382 := n0_; have BK383 := n1_; have HB := n2_; clear n0_ n1_ n2_; (try clear hb); (try clear hb2); (try clear hk); (try clear hi); have hcz19_0 : w18.cell? ⟨gb383, 0, none⟩ = some (.int .u32 a1_0) := (blk_cell BK383.out 0).trans rfl; have hcz19_1 : w18.cell? ⟨gb383, 1, none⟩ = some (.int .i64 a1_1) := (blk_cell BK383.out 1).trans rfl; have hcz19_2 : w18.cell? ⟨gb383, 2, none⟩ = some (.slice A1_2 l1_2.length c1_2) := (blk_cell BK383.out 2).trans rfl; have hcz19_3 : w18.cell? ⟨gb383, 3, none⟩ = some (.slice A1_3 l1_3.length c1_3) := (blk_cell BK383.out 3).trans rfl; have hcz19_4 : w18.cell? ⟨gb383, 4, none⟩ = some (.int .u32 a1_4) := (blk_cell BK383.out 4).trans rfl; have hcz19_5 : w18.cell? ⟨gb383, 5, none⟩ = some (.int .u32 a1_5) := (blk_cell BK383.out 5).trans rfl; have hcz19_6 : w18.cell? ⟨gb383, 6, none⟩ = some (.int .i64 a1_6) := (blk_cell BK383.out 6).trans rfl; have hcz19_7 : w18.cell? ⟨gb383, 7, none⟩ = some (.int .u32 a1_7) := (blk_cell BK383.out 7).trans rfl; have hfz19_0 := bF BK383.out 0; have hfz19_1 := bF BK383.out 1; have hfz19_2 := bF BK383.out 2; have hfz19_3 := bF BK383.out 3; have hfz19_4 := bF BK383.out 4; have hfz19_5 := bF BK383.out 5; have hfz19_6 := bF BK383.out 6; have hfz19_7 := bF BK383.out 7) | (go_at_call 29; (with_reducible refine (r3_Great.calls a1_0 a1_1 _ _ l1_2 _ _ l1_3 a1_4 a1_5 a1_6 a1_7 t386 _ ?side1 ?side2 ?side3 ?side4 A15.out).mono ?_); (case side1 => repeat (first | exact (Kd.C_below HR1_2.out HB.out) | (with_reducible refine Kd.C_alloc ?_ _) | (with_reducible refine Kd.C_drewN ?_ _) | (with_reducible refine Kd.C_drew ?_))); (case side2 => exact HC1_2.out); (case side3 => repeat (first | exact (Kd.C_below HR1_3.out HB.out) | (with_reducible refine Kd.C_alloc ?_ _) | (with_reducible refine Kd.C_drewN ?_ _) | (with_reducible refine Kd.C_drew ?_))); (case side4 => exact HC1_3.out); rintro e w20 ⟨rfl, hb⟩; have n0_ := aM (blk_below (g := gb382) (o := .cells #[.int .i64 a0_0, .slice A0_1 l0_1.length c0_1, .slice A0_2 l0_2.length c0_2, .slice A0_3 l0_3.length c0_3, .int .u32 a0_4, .int .u32 a0_5] 46 (0, 0)) (up_ BK382.out) hb); have n1_ := aM (blk_below (g := gb383) (o := .cells #[.int .u32 a1_0, .int .i64 a1_1, .slice A1_2 l1_2.length c1_2, .slice A1_3 l1_3.length c1_3, .int .u32 a1_4, .int .u32 a1_5, .int .i64 a1_6, .int .u32 a1_7] 50 (0, 0)) (up_ BK383.out) hb); have n2_ := aM (below_step (by repeat (first | (with_reducible first | exact HB.out | apply blA | apply blN | apply blD | refine bS ?_ GE382.out | refine bS ?_ GE383.out) | exact HB.out)) hb); clear BK382; clear BK383; clear HB; have BK382 := n0_; have BK383 := n1_; have HB := n2_; clear n0_ n1_ n2_; (try clear hb); (try clear hb2); (try clear hk); (try clear hi)))
      go_meet
      case rel => exact ⟨_, (t386), (by first | rfl | (simp; done) | (simp [*]; done)), H', ⟨by first | omega | exact Nat.le_refl _⟩, ⟨by (with_reducible repeat (first | apply bkN | apply bkD | apply bkA)); exact BK382.out⟩, ⟨by (with_reducible repeat (first | apply bkN | apply bkD | apply bkA)); exact BK383.out⟩, ⟨by repeat (first | (with_reducible first | exact HB.out | apply blA | apply blN | apply blD | refine bS ?_ GE382.out | refine bS ?_ GE383.out) | exact HB.out)⟩⟩
   case rest =>
    clear HC6
    obtain ⟨kq, x17_5, rfl, HA, HJ5, BK382, BK383, HB⟩ := hcut
    cases kq with
    | zero => exact absurd HA.out (by simp [dragomanlaw11_CondTwice.j0])
    | succ kj5 =>
     have H := HA.out
     clear HA
     simp only [dragomanlaw11_CondTwice.j0] at H
     by_cases c21 : x17_5 = true
     · subst c21
       have H1 : (some true) = some r := by rw [if_pos rfl] at H; exact H
       clear H
       have H := H1
       clear H1
       obtain rfl := Option.some.inj H
       go_wp2
       first | go_ret | refine ⟨_, results_tmp rfl _ _ _, ?_⟩
       exact ⟨by first | rfl | (simp [errW_none, errW_some] <;> rfl) | (simp [*, errW_none, errW_some] <;> rfl), by repeat (first | (with_reducible first | exact HB.out | apply blA | apply blN | apply blD | refine bS ?_ GE382.out | refine bS ?_ GE383.out) | exact HB.out)⟩
     · replace c21 := Bool.eq_false_iff.mpr c21
       subst c21
       have H1 : ((dragomanref11_Copy.f kj5 a0_0 l0_1 l0_2 l0_3 a0_4 a0_5).bind fun bt387 => (if (l0_2.length : Int) > 0 then (if (l0_2.length : Int) = 0 then (none) else (if 0 ≤ (Int.tmod (wrap64 (a2)) (l0_2.length : Int)) then (if (Int.tmod (wrap64 (a2)) (l0_2.length : Int)) < (bt387.2.2.1.length : Int) then (if bt387.2.2.1.length < 2199023255552 then (dragomanlaw11_CondTwice.j1 kj5 a2 a0_0 l0_1 l0_2 l0_3 a0_4 a0_5 a1_0 a1_1 l1_2 l1_3 a1_4 a1_5 a1_6 a1_7 bt387.1 bt387.2.1 (bt387.2.2.1 ++ [(⟨(rd_T61 bt387.2.2.1 (Int.tmod (wrap64 (a2)) (l0_2.length : Int))).f0, (⟨(rd_T61 bt387.2.2.1 (Int.tmod (wrap64 (a2)) (l0_2.length : Int))).f1.f0, (rd_T61 bt387.2.2.1 (Int.tmod (wrap64 (a2)) (l0_2.length : Int))).f1.f1, (rd_T61 bt387.2.2.1 (Int.tmod (wrap64 (a2)) (l0_2.length : Int))).f1.f2⟩ : S25)⟩ : S61)]) bt387.2.2.2.1 bt387.2.2.2.2.1 bt387.2.2.2.2.2) else (none)) else (none)) else (none))) else (dragomanlaw11_CondTwice.j1 kj5 a2 a0_0 l0_1 l0_2 l0_3 a0_4 a0_5 a1_0 a1_1 l1_2 l1_3 a1_4 a1_5 a1_6 a1_7 bt387.1 bt387.2.1 bt387.2.2.1 bt387.2.2.2.1 bt387.2.2.2.2.1 bt387.2.2.2.2.2))) = some r := by rw [if_neg (show ¬ (false = true) by decide)] at H; exact H
       clear H
       have H := H1
       clear H1
       replace H := Option.bind_eq_some_iff.mp H
       obtain ⟨⟨t387, t388, t391, t394, t397, t398⟩, A220, H⟩ := H
       replace H : (if (l0_2.length : Int) > 0 then (if (l0_2.length : Int) = 0 then (none) else (if 0 ≤ (Int.tmod (wrap64 (a2)) (l0_2.length : Int)) then (if (Int.tmod (wrap64 (a2)) (l0_2.length : Int)) < (t391.length : Int) then (if t391.length < 2199023255552 then (dragomanlaw11_CondTwice.j1 kj5 a2 a0_0 l0_1 l0_2 l0_3 a0_4 a0_5 a1_0 a1_1 l1_2 l1_3 a1_4 a1_5 a1_6 a1_7 t387 t388 (t391 ++ [(⟨(rd_T61 t391 (Int.tmod (wrap64 (a2)) (l0_2.length : Int))).f0, (⟨(rd_T61 t391 (Int.tmod (wrap64 (a2)) (l0_2.length : Int))).f1.f0, (rd_T61 t391 (Int.tmod (wrap64 (a2)) (l0_2.length : Int))).f1.f1, (rd_T61 t391 (Int.tmod (wrap64 (a2)) (l0_2.length : Int))).f1.f2⟩ : S25)⟩ : S61)]) t394 t397 t398) else (none)) else (none)) else (none))) else (dragomanlaw11_CondTwice.j1 kj5 a2 a0_0 l0_1 l0_2 l0_3 a0_4 a0_5 a1_0 a1_1 l1_2 l1_3 a1_4 a1_5 a1_6 a1_7 t387 t388 t391 t394 t397 t398)) = some r := H
       have A22 := aM A220
       clear A220
       have HC23 := aM H
       clear H
       have hnb24 := NB382_383.out
       have hnc24 := NB383_382.out
       have hcz25_0 : wc.cell? ⟨gb382, 0, none⟩ = some (.int .i64 a0_0) := (blk_cell BK382.out 0).trans rfl
       have hcz25_1 : wc.cell? ⟨gb382, 1, none⟩ = some (.slice A0_1 l0_1.length c0_1) := (blk_cell BK382.out 1).trans rfl
       have hcz25_2 : wc.cell? ⟨gb382, 2, none⟩ = some (.slice A0_2 l0_2.length c0_2) := (blk_cell BK382.out 2).trans rfl
       have hcz25_3 : wc.cell? ⟨gb382, 3, none⟩ = some (.slice A0_3 l0_3.length c0_3) := (blk_cell BK382.out 3).trans rfl
       have hcz25_4 : wc.cell? ⟨gb382, 4, none⟩ = some (.int .u32 a0_4) := (blk_cell BK382.out 4).trans rfl
       have hcz25_5 : wc.cell? ⟨gb382, 5, none⟩ = some (.int .u32 a0_5) := (blk_cell BK382.out 5).trans rfl
       have hfz25_0 := bF BK382.out 0
       have hfz25_1 := bF BK382.out 1
       have hfz25_2 := bF BK382.out 2
       have hfz25_3 := bF BK382.out 3
       have hfz25_4 := bF BK382.out 4
       have hfz25_5 := bF BK382.out 5
       go_upto_if 23 with (first | ((with_reducible refine gate_callee (f := 30) rfl ?_); refine goesL_ (some 19) rfl rfl Try.func30 (by kernel_rfl) rfl #[.agg #[.int .i64 a0_0, .slice A0_1 l0_1.length c0_1, .slice A0_2 l0_2.length c0_2, .slice A0_3 l0_3.length c0_3, .int .u32 a0_4, .int .u32 a0_5]] rfl (by (try simp only [List.map_toArray, List.map_cons, List.map_nil]); first | done | rfl | (simp only [List.length_drop, List.length_take]; rfl)) ?_; (with_reducible refine (dragomanref11_Copy.calls kj5 a0_0 _ _ l0_1 _ _ l0_2 _ _ l0_3 a0_4 a0_5 t387 t388 t391 t394 t397 t398 _ ?side1 ?side2 ?side3 ?side4 ?side5 ?side6 A22.out).mono ?_); (case side1 => repeat (first | exact (Kd.C_below HR0_1.out HB.out) | (with_reducible refine Kd.C_alloc ?_ _) | (with_reducible refine Kd.C_drewN ?_ _) | (with_reducible refine Kd.C_drew ?_))); (case side2 => exact HC0_1.out); (case side3 => repeat (first | exact (Kd.C_below HR0_2.out HB.out) | (with_reducible refine Kd.C_alloc ?_ _) | (with_reducible refine Kd.C_drewN ?_ _) | (with_reducible refine Kd.C_drew ?_))); (case side4 => exact HC0_2.out); (case side5 => repeat (first | exact (Kd.C_below HR0_3.out HB.out) | (with_reducible refine Kd.C_alloc ?_ _) | (with_reducible refine Kd.C_drewN ?_ _) | (with_reducible refine Kd.C_drew ?_))); (case side6 => exact HC0_3.out); rintro e w26 ⟨v389, v392, v395, rfl, ho0, ho1, ho2, hb⟩; refine ⟨_, rfl, ?_⟩; have n0_ := aM (Kd.R_lower ho0 (below_size (by repeat (first | (with_reducible first | exact HB.out | apply blA | apply blN | apply blD | refine bS ?_ GE382.out | refine bS ?_ GE383.out) | exact HB.out)))); have n1_ := aM (Kd.N_lower (Kd.N_mono (ok' := fun k_ => some k_ ≠ (v389 : Value).ownBlock ∧ some k_ ≠ (v395 : Value).ownBlock ∧ k_ ≠ gb382 ∧ k_ ≠ gb383) (Kd.R_N (Kd.R_bound (Kd.R_apart' (Kd.R_apart' ho1 (Kd.R_typed ho0) (by decide)) (Kd.S_typed ho2) (by decide)))) (fun k_ hk_ => ⟨hk_.1.1.2, hk_.1.2, (Kd.freshB (g := gb382) (o := .cells #[.int .i64 a0_0, .slice A0_1 l0_1.length c0_1, .slice A0_2 l0_2.length c0_2, .slice A0_3 l0_3.length c0_3, .int .u32 a0_4, .int .u32 a0_5] 46 (0, 0)) (up_ BK382.out) k_ hk_.2.1), (Kd.freshB (g := gb383) (o := .cells #[.int .u32 a1_0, .int .i64 a1_1, .slice A1_2 l1_2.length c1_2, .slice A1_3 l1_3.length c1_3, .int .u32 a1_4, .int .u32 a1_5, .int .i64 a1_6, .int .u32 a1_7] 50 (0, 0)) (up_ BK383.out) k_ hk_.2.1)⟩)) (below_size (by repeat (first | (with_reducible first | exact HB.out | apply blA | apply blN | apply blD | refine bS ?_ GE382.out | refine bS ?_ GE383.out) | exact HB.out)))); have n2_ := aM (Kd.N_lower (Kd.N_mono (ok' := fun k_ => some k_ ≠ (v389 : Value).ownBlock ∧ some k_ ≠ (v392 : Value).ownBlock ∧ k_ ≠ gb382 ∧ k_ ≠ gb383) (Kd.S_N (Kd.S_bound (Kd.S_apart' (Kd.S_apart' ho2 (Kd.R_typed ho0) (by decide)) (Kd.R_typed ho1) (by decide)))) (fun k_ hk_ => ⟨hk_.1.1.2, hk_.1.2, (Kd.freshB (g := gb382) (o := .cells #[.int .i64 a0_0, .slice A0_1 l0_1.length c0_1, .slice A0_2 l0_2.length c0_2, .slice A0_3 l0_3.length c0_3, .int .u32 a0_4, .int .u32 a0_5] 46 (0, 0)) (up_ BK382.out) k_ hk_.2.1), (Kd.freshB (g := gb383) (o := .cells #[.int .u32 a1_0, .int .i64 a1_1, .slice A1_2 l1_2.length c1_2, .slice A1_3 l1_3.length c1_3, .int .u32 a1_4, .int .u32 a1_5, .int .i64 a1_6, .int .u32 a1_7] 50 (0, 0)) (up_ BK383.out) k_ hk_.2.1)⟩)) (below_size (by repeat (first | (with_reducible first | exact HB.out | apply blA | apply blN | apply blD | refine bS ?_ GE382.out | refine bS ?_ GE383.out) | exact HB.out)))); have n3_ := aM (blk_below (g := gb382) (o := .cells #[.int .i64 a0_0, .slice A0_1 l0_1.length c0_1, .slice A0_2 l0_2.length c0_2, .slice A0_3 l0_3.length c0_3, .int .u32 a0_4, .int .u32 a0_5] 46 (0, 0)) (up_ BK382.out) hb); have n4_ := aM (blk_below (g := gb383) (o := .cells #[.int .u32 a1_0, .int .i64 a1_1, .slice A1_2 l1_2.length c1_2, .slice A1_3 l1_3.length c1_3, .int .u32 a1_4, .int .u32 a1_5, .int .i64 a1_6, .int .u32 a1_7] 50 (0, 0)) (up_ BK383.out) hb); have n5_ := aM (below_step (by repeat (first | (with_reducible first | exact HB.out | apply blA | apply blN | apply blD | refine bS ?_ GE382.out | refine bS ?_ GE383.out) | exact HB.out)) hb); clear BK382; clear BK383; clear HB; have HO390 := n0_; have HO393 := n1_; have HO396 := n2_; have BK382 := n3_; have BK383 := n4_; have HB := n5_; clear n0_ n1_ n2_ n3_ n4_ n5_; (try clear hb); (try clear hb2); (try clear hk); (try clear hi); (try clear ho0); (try clear ho1); (try clear ho2)) | ((with_reducible refine gate_dst (N := 7) rfl ?_); refine box_event ?hg (N := 7) ?hd (cs := #[.int .i64 0, .slice none 0 0, .slice none 0 0, .slice none 0 0, .int .u32 0, .int .u32 0]) (t := 46) ?hr ?_; (case hd => rfl); (case hg => rfl); (case hr => first | (go_simp; done) | (go_simp; rfl)); intro gb399 hg w27 hbox hb; have n0_ := aM (Kd.R_below (uk_ HO390.out) hb); have n1_ := aM (Kd.N_below (Kd.N_elderB (by (with_reducible repeat (first | apply Kd.N_alloc | apply Kd.N_drewN | apply Kd.N_drew)); exact HO393.out) gb399 (Nat.le_of_eq hg.symm)) hb); have n2_ := aM (Kd.N_below (Kd.N_elderB (by (with_reducible repeat (first | apply Kd.N_alloc | apply Kd.N_drewN | apply Kd.N_drew)); exact HO396.out) gb399 (Nat.le_of_eq hg.symm)) hb); have n3_ := aM (blk_below (g := gb382) (o := .cells #[.int .i64 a0_0, .slice A0_1 l0_1.length c0_1, .slice A0_2 l0_2.length c0_2, .slice A0_3 l0_3.length c0_3, .int .u32 a0_4, .int .u32 a0_5] 46 (0, 0)) (up_ BK382.out) hb); have n4_ := aM (blk_below (g := gb383) (o := .cells #[.int .u32 a1_0, .int .i64 a1_1, .slice A1_2 l1_2.length c1_2, .slice A1_3 l1_3.length c1_3, .int .u32 a1_4, .int .u32 a1_5, .int .i64 a1_6, .int .u32 a1_7] 50 (0, 0)) (up_ BK383.out) hb); have n5_ := aM (below_step (by repeat (first | (with_reducible first | exact HB.out | apply blA | apply blN | apply blD | refine bS ?_ GE382.out | refine bS ?_ GE383.out) | exact HB.out)) hb); have n6_ := aM (hbox); have n7_ := aM ((by rw [hg]; exact (below_size (by repeat (first | (with_reducible first | exact HB.out | apply blA | apply blN | apply blD | refine bS ?_ GE382.out | refine bS ?_ GE383.out) | exact HB.out))) : w.heap.size ≤ gb399)); have n8_ := aM ((by rw [hg]; exact (below_size (by repeat (first | (with_reducible first | exact HB.out | apply blA | apply blN | apply blD | refine bS ?_ GE382.out | refine bS ?_ GE383.out) | exact HB.out))) : w.heap.size ≤ gb399)); have n9_ := aM ((by rw [hg]; exact Nat.ne_of_lt (blk_lt (g := gb382) (o := .cells #[.int .i64 a0_0, .slice A0_1 l0_1.length c0_1, .slice A0_2 l0_2.length c0_2, .slice A0_3 l0_3.length c0_3, .int .u32 a0_4, .int .u32 a0_5] 46 (0, 0)) (up_ BK382.out)) : gb382 ≠ gb399)); have n10_ := aM ((by rw [hg]; exact Nat.ne_of_gt (blk_lt (g := gb382) (o := .cells #[.int .i64 a0_0, .slice A0_1 l0_1.length c0_1, .slice A0_2 l0_2.length c0_2, .slice A0_3 l0_3.length c0_3, .int .u32 a0_4, .int .u32 a0_5] 46 (0, 0)) (up_ BK382.out)) : gb399 ≠ gb382)); have n11_ := aM ((by rw [hg]; exact Nat.ne_of_lt (blk_lt (g := gb383) (o := .cells #[.int .u32 a1_0, .int .i64 a1_1, .slice A1_2 l1_2.length c1_2, .slice A1_3 l1_3.length c1_3, .int .u32 a1_4, .int .u32 a1_5, .int .i64 a1_6, .int .u32 a1_7] 50 (0, 0)) (up_ BK383.out)) : gb383 ≠ gb399)); have n12_ := aM ((by rw [hg]; exact Nat.ne_of_gt (blk_lt (g := gb383) (o := .cells #[.int .u32 a1_0, .int .i64 a1_1, .slice A1_2 l1_2.length c1_2, .slice A1_3 l1_3.length c1_3, .int .u32 a1_4, .int .u32 a1_5, .int .i64 a1_6, .int .u32 a1_7] 50 (0, 0)) (up_ BK383.out)) : gb399 ≠ gb383)); clear HO390; clear HO393; clear HO396; clear BK382; clear BK383; clear HB; have HO390 := n0_; have HO393 := n1_; have HO396 := n2_; have BK382 := n3_; have BK383 := n4_; have HB := n5_; have BK399 := n6_; have GW399 := n7_; have GE399 := n8_; have NB382_399 := n9_; have NB399_382 := n10_; have NB383_399 := n11_; have NB399_383 := n12_; clear n0_ n1_ n2_ n3_ n4_ n5_ n6_ n7_ n8_ n9_ n10_ n11_ n12_; clear hb hbox hg; have hnb28 := NB399_382.out; have hnc28 := NB382_399.out; have hnb29 := NB399_383.out; have hnc29 := NB383_399.out; have hcz30_0 : w27.cell? ⟨gb399, 0, none⟩ = some (.int .i64 0) := (blk_cell BK399.out 0).trans rfl; have hcz30_1 : w27.cell? ⟨gb399, 1, none⟩ = some (.slice none 0 0) := (blk_cell BK399.out 1).trans rfl; have hcz30_2 : w27.cell? ⟨gb399, 2, none⟩ = some (.slice none 0 0) := (blk_cell BK399.out 2).trans rfl; have hcz30_3 : w27.cell? ⟨gb399, 3, none⟩ = some (.slice none 0 0) := (blk_cell BK399.out 3).trans rfl; have hcz30_4 : w27.cell? ⟨gb399, 4, none⟩ = some (.int .u32 0) := (blk_cell BK399.out 4).trans rfl; have hcz30_5 : w27.cell? ⟨gb399, 5, none⟩ = some (.int .u32 0) := (blk_cell BK399.out 5).trans rfl; have hfz30_0 := bF BK399.out 0; have hfz30_1 := bF BK399.out 1; have hfz30_2 := bF BK399.out 2; have hfz30_3 := bF BK399.out 3; have hfz30_4 := bF BK399.out 4; have hfz30_5 := bF BK399.out 5; obtain ⟨Ao31, co31, eo31⟩ := Kd.R_slice HO390.out; subst eo31; obtain ⟨Ao32, co32, eo32⟩ := Kd.N_slice HO393.out; subst eo32; obtain ⟨Ao33, co33, eo33⟩ := Kd.N_slice HO396.out; subst eo33; have hcz34_0 : w27.cell? ⟨gb382, 0, none⟩ = some (.int .i64 a0_0) := (blk_cell BK382.out 0).trans rfl; have hcz34_1 : w27.cell? ⟨gb382, 1, none⟩ = some (.slice A0_1 l0_1.length c0_1) := (blk_cell BK382.out 1).trans rfl; have hcz34_2 : w27.cell? ⟨gb382, 2, none⟩ = some (.slice A0_2 l0_2.length c0_2) := (blk_cell BK382.out 2).trans rfl; have hcz34_3 : w27.cell? ⟨gb382, 3, none⟩ = some (.slice A0_3 l0_3.length c0_3) := (blk_cell BK382.out 3).trans rfl; have hcz34_4 : w27.cell? ⟨gb382, 4, none⟩ = some (.int .u32 a0_4) := (blk_cell BK382.out 4).trans rfl; have hcz34_5 : w27.cell? ⟨gb382, 5, none⟩ = some (.int .u32 a0_5) := (blk_cell BK382.out 5).trans rfl; have hfz34_0 := bF BK382.out 0; have hfz34_1 := bF BK382.out 1; have hfz34_2 := bF BK382.out 2; have hfz34_3 := bF BK382.out 3; have hfz34_4 := bF BK382.out 4; have hfz34_5 := bF BK382.out 5))
       (try simp only [Act.put, sT, sZ, sS])
       go_cut [] (fun wc => ∃ (kq : Nat) (x400002_22 : List (S61)) (u400002 : Value), Aside0 (dragomanlaw11_CondTwice.j1 kq a2 a0_0 l0_1 l0_2 l0_3 a0_4 a0_5 a1_0 a1_1 l1_2 l1_3 a1_4 a1_5 a1_6 a1_7 t387 t388 x400002_22 t394 t397 t398 = some r) ∧ Aside0 (kq ≤ kj5) ∧ Aside0 (Kd.R k83 83 wc w.heap.size (fun _ => True) (.slice Ao31 t388.length co31) t388) ∧ Aside0 (Kd.N k61 61 wc w.heap.size (fun k_ => some k_ ≠ ((.slice Ao31 t388.length co31) : Value).ownBlock ∧ some k_ ≠ ((.slice Ao33 t394.length co33) : Value).ownBlock ∧ k_ ≠ gb382 ∧ k_ ≠ gb383 ∧ k_ ≠ gb399) u400002 x400002_22) ∧ Aside0 (Kd.N k64 64 wc w.heap.size (fun k_ => some k_ ≠ ((.slice Ao31 t388.length co31) : Value).ownBlock ∧ some k_ ≠ (u400002 : Value).ownBlock ∧ k_ ≠ gb382 ∧ k_ ≠ gb383 ∧ k_ ≠ gb399) (.slice Ao33 t394.length co33) t394) ∧ Aside0 (wc.heap[gb382]? = some (.cells #[.int .i64 a0_0, (.slice A0_1 l0_1.length c0_1), (.slice A0_2 l0_2.length c0_2), (.slice A0_3 l0_3.length c0_3), .int .u32 a0_4, .int .u32 a0_5] 46 (0, 0))) ∧ Aside0 (wc.heap[gb383]? = some (.cells #[.int .u32 a1_0, .int .i64 a1_1, (.slice A1_2 l1_2.length c1_2), (.slice A1_3 l1_3.length c1_3), .int .u32 a1_4, .int .u32 a1_5, .int .i64 a1_6, .int .u32 a1_7] 50 (0, 0))) ∧ Aside0 (wc.heap[gb399]? = some (.cells #[.int .i64 t387, (.slice Ao31 t388.length co31), u400002, (.slice Ao33 t394.length co33), .int .u32 t397, .int .u32 t398] 46 (0, 0))) ∧ Aside0 (Below w.heap.size w wc))
       case first =>
        have H := HC23.out
        clear HC23
        by_cases c35 : (l0_2.length : Int) > 0
        · rw [if_pos c35] at H
          have c35b0 : decide (0 < (l0_2.length : Int)) = true := decide_eq_true c35
          have c35b1 : decide (0 < l0_2.length) = true := decide_eq_true (by omega)
          clear c35
          (first | rw [c35b0] | (simp only [i64_w, i32_w]; rw [c35b0]) | rw [c35b1] | skip)
          by_cases c36 : (l0_2.length : Int) = 0
          · rw [if_pos c36] at H
            exact absurd H (by simp)
          · rw [if_neg c36] at H
            have c36b0 : ((l0_2.length : Int) == 0) = false := beq_eq_false_iff_ne.mpr c36
            have c36b1 : ((l0_2.length : Int) != 0) = true := bne_iff_ne.mpr c36
            have c36b2 : ¬ (l0_2 = []) := fun h_ => c36 (by rw [h_]; rfl)
            obtain ⟨ji37, hji37⟩ : ∃ j_ : Int, (Int.tmod (wrap64 (a2)) (l0_2.length : Int)) = j_ := ⟨_, rfl⟩
            replace H : (if 0 ≤ (ji37) then (if (ji37) < (t391.length : Int) then (if t391.length < 2199023255552 then (dragomanlaw11_CondTwice.j1 kj5 a2 a0_0 l0_1 l0_2 l0_3 a0_4 a0_5 a1_0 a1_1 l1_2 l1_3 a1_4 a1_5 a1_6 a1_7 t387 t388 (t391 ++ [(⟨(rd_T61 t391 (ji37)).f0, (⟨(rd_T61 t391 (ji37)).f1.f0, (rd_T61 t391 (ji37)).f1.f1, (rd_T61 t391 (ji37)).f1.f2⟩ : S25)⟩ : S61)]) t394 t397 t398) else (none)) else (none)) else (none)) = some r := by first | (rw [hji37] at H; exact H) | (simp only [hji37] at H ⊢; exact H)
            by_cases c38 : 0 ≤ (ji37)
            · rw [if_pos c38] at H
              have c38b0 : decide (0 ≤ (ji37)) = true := decide_eq_true c38
              clear c38
              by_cases c39 : (ji37) < (t391.length : Int)
              · rw [if_pos c39] at H
                have c39b0 : decide ((ji37) < (t391.length : Int)) = true := decide_eq_true c39
                clear c39
                by_cases c40 : t391.length < 2199023255552
                · rw [if_pos c40] at H
                  have LMc40 := aM c40
                  clear c40
                  obtain ⟨y401, hy401⟩ : ∃ y_ : List (S61), y_ = (t391 ++ [(⟨(rd_T61 t391 (ji37)).f0, (⟨(rd_T61 t391 (ji37)).f1.f0, (rd_T61 t391 (ji37)).f1.f1, (rd_T61 t391 (ji37)).f1.f2⟩ : S25)⟩ : S61)]) := ⟨_, rfl⟩
                  replace H : (dragomanlaw11_CondTwice.j1 kj5 a2 a0_0 l0_1 l0_2 l0_3 a0_4 a0_5 a1_0 a1_1 l1_2 l1_3 a1_4 a1_5 a1_6 a1_7 t387 t388 y401 t394 t397 t398) = some r := by first | (rw [hy401]; with_reducible exact H) | (have H2_ := (Option.bind_some _ _).symm.trans H; rw [hy401]; with_reducible exact H2_) | (have H2_ := (Option.bind_some _ _).symm.trans H; with_reducible exact H2_) | with_reducible exact H | (rw [hy401]; exact H) | exact H
                  have Ny401 := aM hy401
                  clear hy401
                  have H' := aM H
                  clear H
                  try go_wp2
                  have n0_ : Aside0 (Kd.R k83 83 ((((((w27.setCell ⟨gb399, 0, none⟩ (.int .i64 t387)).setCell ⟨gb399, 1, none⟩ (.slice Ao31 t388.length co31)).setCell ⟨gb399, 2, none⟩ (.slice Ao32 t391.length co32)).setCell ⟨gb399, 3, none⟩ (.slice Ao33 t394.length co33)).setCell ⟨gb399, 4, none⟩ (.int .u32 t397)).setCell ⟨gb399, 5, none⟩ (.int .u32 t398)) w.heap.size (fun _ => True) (.slice Ao31 t388.length co31) t388) := ⟨by (with_reducible repeat (first | apply kA | apply kN | apply kD)); exact Kd.R_mono (Kd.R_far (p := ⟨gb399, 5, none⟩) (Kd.R_far (p := ⟨gb399, 4, none⟩) (Kd.R_far (p := ⟨gb399, 3, none⟩) (Kd.R_far (p := ⟨gb399, 2, none⟩) (Kd.R_far (p := ⟨gb399, 1, none⟩) (Kd.R_far (p := ⟨gb399, 0, none⟩) (Kd.R_types HO390.out BK399.out (by decide)) (fun _ hk => hk.2) (.int .i64 t387)) (fun _ hk => hk.2) (.slice Ao31 t388.length co31)) (fun _ hk => hk.2) (.slice Ao32 t391.length co32)) (fun _ hk => hk.2) (.slice Ao33 t394.length co33)) (fun _ hk => hk.2) (.int .u32 t397)) (fun _ hk => hk.2) (.int .u32 t398)) (fun _ hk => trivial)⟩
                  have n1_ : Aside0 (Kd.N k61 61 ((((((w27.setCell ⟨gb399, 0, none⟩ (.int .i64 t387)).setCell ⟨gb399, 1, none⟩ (.slice Ao31 t388.length co31)).setCell ⟨gb399, 2, none⟩ (.slice Ao32 t391.length co32)).setCell ⟨gb399, 3, none⟩ (.slice Ao33 t394.length co33)).setCell ⟨gb399, 4, none⟩ (.int .u32 t397)).setCell ⟨gb399, 5, none⟩ (.int .u32 t398)) w.heap.size (fun k_ => some k_ ≠ (.slice Ao31 t388.length co31 : Value).ownBlock ∧ some k_ ≠ (.slice Ao33 t394.length co33 : Value).ownBlock ∧ k_ ≠ gb382 ∧ k_ ≠ gb383 ∧ k_ ≠ gb399) (.slice Ao32 t391.length co32) t391) := ⟨by (with_reducible repeat (first | apply Kd.N_alloc | apply Kd.N_drewN | apply Kd.N_drew)); exact Kd.N_mono (Kd.N_far (p := ⟨gb399, 5, none⟩) (Kd.N_far (p := ⟨gb399, 4, none⟩) (Kd.N_far (p := ⟨gb399, 3, none⟩) (Kd.N_far (p := ⟨gb399, 2, none⟩) (Kd.N_far (p := ⟨gb399, 1, none⟩) (Kd.N_far (p := ⟨gb399, 0, none⟩) (Kd.N_mono HO393.out (fun k_ hk => (⟨hk, hk.2⟩ : _ ∧ k_ ≠ gb399))) (fun _ hk => hk.2) (.int .i64 t387)) (fun _ hk => hk.2) (.slice Ao31 t388.length co31)) (fun _ hk => hk.2) (.slice Ao32 t391.length co32)) (fun _ hk => hk.2) (.slice Ao33 t394.length co33)) (fun _ hk => hk.2) (.int .u32 t397)) (fun _ hk => hk.2) (.int .u32 t398)) (fun _ hk => ⟨hk.1.1.1, ⟨hk.1.1.2.1, ⟨hk.1.1.2.2.1, ⟨hk.1.1.2.2.2, hk.1.2⟩⟩⟩⟩)⟩
                  have n2_ : Aside0 (Kd.N k64 64 ((((((w27.setCell ⟨gb399, 0, none⟩ (.int .i64 t387)).setCell ⟨gb399, 1, none⟩ (.slice Ao31 t388.length co31)).setCell ⟨gb399, 2, none⟩ (.slice Ao32 t391.length co32)).setCell ⟨gb399, 3, none⟩ (.slice Ao33 t394.length co33)).setCell ⟨gb399, 4, none⟩ (.int .u32 t397)).setCell ⟨gb399, 5, none⟩ (.int .u32 t398)) w.heap.size (fun k_ => some k_ ≠ (.slice Ao31 t388.length co31 : Value).ownBlock ∧ some k_ ≠ (.slice Ao32 t391.length co32 : Value).ownBlock ∧ k_ ≠ gb382 ∧ k_ ≠ gb383 ∧ k_ ≠ gb399) (.slice Ao33 t394.length co33) t394) := ⟨by (with_reducible repeat (first | apply Kd.N_alloc | apply Kd.N_drewN | apply Kd.N_drew)); exact Kd.N_mono (Kd.N_far (p := ⟨gb399, 5, none⟩) (Kd.N_far (p := ⟨gb399, 4, none⟩) (Kd.N_far (p := ⟨gb399, 3, none⟩) (Kd.N_far (p := ⟨gb399, 2, none⟩) (Kd.N_far (p := ⟨gb399, 1, none⟩) (Kd.N_far (p := ⟨gb399, 0, none⟩) (Kd.N_mono HO396.out (fun k_ hk => (⟨hk, hk.2⟩ : _ ∧ k_ ≠ gb399))) (fun _ hk => hk.2) (.int .i64 t387)) (fun _ hk => hk.2) (.slice Ao31 t388.length co31)) (fun _ hk => hk.2) (.slice Ao32 t391.length co32)) (fun _ hk => hk.2) (.slice Ao33 t394.length co33)) (fun _ hk => hk.2) (.int .u32 t397)) (fun _ hk => hk.2) (.int .u32 t398)) (fun _ hk => ⟨hk.1.1.1, ⟨hk.1.1.2.1, ⟨hk.1.1.2.2.1, ⟨hk.1.1.2.2.2, hk.1.2⟩⟩⟩⟩)⟩
                  have n3_ : Aside0 (((((((w27.setCell ⟨gb399, 0, none⟩ (.int .i64 t387)).setCell ⟨gb399, 1, none⟩ (.slice Ao31 t388.length co31)).setCell ⟨gb399, 2, none⟩ (.slice Ao32 t391.length co32)).setCell ⟨gb399, 3, none⟩ (.slice Ao33 t394.length co33)).setCell ⟨gb399, 4, none⟩ (.int .u32 t397)).setCell ⟨gb399, 5, none⟩ (.int .u32 t398)).heap[gb382]? = some (.cells #[.int .i64 a0_0, .slice A0_1 l0_1.length c0_1, .slice A0_2 l0_2.length c0_2, .slice A0_3 l0_3.length c0_3, .int .u32 a0_4, .int .u32 a0_5] 46 (0, 0))) := ⟨by (with_reducible repeat (first | apply bkN | apply bkD | apply bkA)); refine blk_far ?_ NB382_399.out _; (with_reducible repeat (first | apply bkN | apply bkD | apply bkA)); refine blk_far ?_ NB382_399.out _; (with_reducible repeat (first | apply bkN | apply bkD | apply bkA)); refine blk_far ?_ NB382_399.out _; (with_reducible repeat (first | apply bkN | apply bkD | apply bkA)); refine blk_far ?_ NB382_399.out _; (with_reducible repeat (first | apply bkN | apply bkD | apply bkA)); refine blk_far ?_ NB382_399.out _; (with_reducible repeat (first | apply bkN | apply bkD | apply bkA)); refine blk_far ?_ NB382_399.out _; (with_reducible repeat (first | apply bkN | apply bkD | apply bkA)); exact BK382.out⟩
                  have n4_ : Aside0 (((((((w27.setCell ⟨gb399, 0, none⟩ (.int .i64 t387)).setCell ⟨gb399, 1, none⟩ (.slice Ao31 t388.length co31)).setCell ⟨gb399, 2, none⟩ (.slice Ao32 t391.length co32)).setCell ⟨gb399, 3, none⟩ (.slice Ao33 t394.length co33)).setCell ⟨gb399, 4, none⟩ (.int .u32 t397)).setCell ⟨gb399, 5, none⟩ (.int .u32 t398)).heap[gb383]? = some (.cells #[.int .u32 a1_0, .int .i64 a1_1, .slice A1_2 l1_2.length c1_2, .slice A1_3 l1_3.length c1_3, .int .u32 a1_4, .int .u32 a1_5, .int .i64 a1_6, .int .u32 a1_7] 50 (0, 0))) := ⟨by (with_reducible repeat (first | apply bkN | apply bkD | apply bkA)); refine blk_far ?_ NB383_399.out _; (with_reducible repeat (first | apply bkN | apply bkD | apply bkA)); refine blk_far ?_ NB383_399.out _; (with_reducible repeat (first | apply bkN | apply bkD | apply bkA)); refine blk_far ?_ NB383_399.out _; (with_reducible repeat (first | apply bkN | apply bkD | apply bkA)); refine blk_far ?_ NB383_399.out _; (with_reducible repeat (first | apply bkN | apply bkD | apply bkA)); refine blk_far ?_ NB383_399.out _; (with_reducible repeat (first | apply bkN | apply bkD | apply bkA)); refine blk_far ?_ NB383_399.out _; (with_reducible repeat (first | apply bkN | apply bkD | apply bkA)); exact BK383.out⟩
                  have n5_ : Aside0 (((((((w27.setCell ⟨gb399, 0, none⟩ (.int .i64 t387)).setCell ⟨gb399, 1, none⟩ (.slice Ao31 t388.length co31)).setCell ⟨gb399, 2, none⟩ (.slice Ao32 t391.length co32)).setCell ⟨gb399, 3, none⟩ (.slice Ao33 t394.length co33)).setCell ⟨gb399, 4, none⟩ (.int .u32 t397)).setCell ⟨gb399, 5, none⟩ (.int .u32 t398)).heap[gb399]? = some (.cells #[.int .i64 t387, .slice Ao31 t388.length co31, .slice Ao32 t391.length co32, .slice Ao33 t394.length co33, .int .u32 t397, .int .u32 t398] 46 (0, 0))) := ⟨by (with_reducible repeat (first | apply bkN | apply bkD | apply bkA)); refine blk_put (cs := #[.int .i64 t387, .slice Ao31 t388.length co31, .slice Ao32 t391.length co32, .slice Ao33 t394.length co33, .int .u32 t397, .int .u32 0]) ?_ 5 _ rfl; (with_reducible repeat (first | apply bkN | apply bkD | apply bkA)); refine blk_put (cs := #[.int .i64 t387, .slice Ao31 t388.length co31, .slice Ao32 t391.length co32, .slice Ao33 t394.length co33, .int .u32 0, .int .u32 0]) ?_ 4 _ rfl; (with_reducible repeat (first | apply bkN | apply bkD | apply bkA)); refine blk_put (cs := #[.int .i64 t387, .slice Ao31 t388.length co31, .slice Ao32 t391.length co32, .slice none 0 0, .int .u32 0, .int .u32 0]) ?_ 3 _ rfl; (with_reducible repeat (first | apply bkN | apply bkD | apply bkA)); refine blk_put (cs := #[.int .i64 t387, .slice Ao31 t388.length co31, .slice none 0 0, .slice none 0 0, .int .u32 0, .int .u32 0]) ?_ 2 _ rfl; (with_reducible repeat (first | apply bkN | apply bkD | apply bkA)); refine blk_put (cs := #[.int .i64 t387, .slice none 0 0, .slice none 0 0, .slice none 0 0, .int .u32 0, .int .u32 0]) ?_ 1 _ rfl; (with_reducible repeat (first | apply bkN | apply bkD | apply bkA)); refine blk_put (cs := #[.int .i64 0, .slice none 0 0, .slice none 0 0, .slice none 0 0, .int .u32 0, .int .u32 0]) ?_ 0 _ rfl; (with_reducible repeat (first | apply bkN | apply bkD | apply bkA)); exact BK399.out⟩
                  have n6_ : Aside0 (Below w.heap.size w ((((((w27.setCell ⟨gb399, 0, none⟩ (.int .i64 t387)).setCell ⟨gb399, 1, none⟩ (.slice Ao31 t388.length co31)).setCell ⟨gb399, 2, none⟩ (.slice Ao32 t391.length co32)).setCell ⟨gb399, 3, none⟩ (.slice Ao33 t394.length co33)).setCell ⟨gb399, 4, none⟩ (.int .u32 t397)).setCell ⟨gb399, 5, none⟩ (.int .u32 t398))) := ⟨by repeat (first | (with_reducible first | exact HB.out | apply blA | apply blN | apply blD | refine bS ?_ GE382.out | refine bS ?_ GE383.out | refine bS ?_ GE399.out) | exact HB.out)⟩
                  (try clear HO390)
                  (try clear HO393)
                  (try clear HO396)
                  (try clear BK382)
                  (try clear BK383)
                  (try clear BK399)
                  (try clear HB)
                  generalize ((((((w27.setCell ⟨gb399, 0, none⟩ (.int .i64 t387)).setCell ⟨gb399, 1, none⟩ (.slice Ao31 t388.length co31)).setCell ⟨gb399, 2, none⟩ (.slice Ao32 t391.length co32)).setCell ⟨gb399, 3, none⟩ (.slice Ao33 t394.length co33)).setCell ⟨gb399, 4, none⟩ (.int .u32 t397)).setCell ⟨gb399, 5, none⟩ (.int .u32 t398)) = w41 at n0_ n1_ n2_ n3_ n4_ n5_ n6_ ⊢
                  have HO390 := n0_
                  have HO393 := n1_
                  have HO396 := n2_
                  have BK382 := n3_
                  have BK383 := n4_
                  have BK399 := n5_
                  have HB := n6_
                  clear n0_ n1_ n2_ n3_ n4_ n5_ n6_
                  have n0_ := aM (Kd.R_drew HO390.out)
                  have n1_ := aM (Kd.N_drew HO393.out)
                  have n2_ := aM (Kd.N_drew HO396.out)
                  have n3_ := aM (blk_drew BK382.out)
                  have n4_ := aM (blk_drew BK383.out)
                  have n5_ := aM (blk_drew BK399.out)
                  have n6_ := aM (below_drew1 HB.out)
                  clear HO390
                  clear HO393
                  clear HO396
                  clear BK382
                  clear BK383
                  clear BK399
                  clear HB
                  have HO390 := n0_
                  have HO393 := n1_
                  have HO396 := n2_
                  have BK382 := n3_
                  have BK383 := n4_
                  have BK399 := n5_
                  have HB := n6_
                  clear n0_ n1_ n2_ n3_ n4_ n5_ n6_
                  have p400 : 0 ≤ ((ji37) : Int) := of_decide_eq_true (by first | (with_reducible assumption) | assumption)
                  have q400 : (ji37) < (t391.length : Int) := of_decide_eq_true (by first | (with_reducible assumption) | assumption)
                  obtain ⟨ad400, A400_2, c400_2, A400_3, c400_3, e400, hx400_0, hx400_1, hx400_2, hx400_3, hl400_2, hi400_2, hl400_3, hi400_3⟩ := at_T61 (Kd.N_reads' HO393.out).2.2 (ji37) p400 q400
                  cases e400
                  obtain ⟨ce400, hce400, hMe400, hcc400⟩ := Kd.N_get HO393.out z61 (ji37) p400 (by first | exact q400 | exact of_decide_eq_true (by first | (with_reducible assumption) | assumption) | (have e_ := (Kd.N_reads' HO393.out).1; omega))
                  obtain ⟨ua400_2, uc400_2, ua400_3, uc400_3, rfl, ul400_2, ge400_2, ul400_3, ge400_3⟩ := k61_openF hMe400
                  have hv400_2 := hcc400 2 _ rfl
                  rw [add_field _ _ 2 (by omega)] at hv400_2
                  replace hv400_2 := Option.some.inj (hv400_2.symm.trans hx400_2)
                  injection hv400_2 with hva_ hvn_ hvc_
                  rw [hva_] at ge400_2
                  rw [hvc_] at ul400_2
                  have HL400_2 := aM (show Kd.V k66 66 _ w.heap.size _ _ ((rd_T61 t391 (ji37)).f1.f1) from Kd.V_mk ul400_2 ge400_2)
                  clear hva_ hvn_ hvc_ ge400_2 ul400_2
                  have hv400_3 := hcc400 3 _ rfl
                  rw [add_field _ _ 3 (by omega)] at hv400_3
                  replace hv400_3 := Option.some.inj (hv400_3.symm.trans hx400_3)
                  injection hv400_3 with hva_ hvn_ hvc_
                  rw [hva_] at ge400_3
                  rw [hvc_] at ul400_3
                  have HL400_3 := aM (show Kd.V k25 25 _ w.heap.size _ _ ((rd_T61 t391 (ji37)).f1.f2) from Kd.V_mk ul400_3 ge400_3)
                  clear hva_ hvn_ hvc_ ge400_3 ul400_3
                  clear hcc400 hce400
                  have HR400_2 := aM hi400_2
                  have HC400_2 := aM hl400_2
                  clear hi400_2 hl400_2
                  have HR400_3 := aM hi400_3
                  have HC400_3 := aM hl400_3
                  clear hi400_3 hl400_3
                  replace p400 := eq_true p400
                  replace q400 := eq_true q400
                  refine start_ (n := 16) (S := fun w' => w'.cell? ⟨gb399, 0, none⟩ = some (.int .i64 t387) ∧ w'.cell? ⟨gb399, 1, none⟩ = some (.slice Ao31 t388.length co31) ∧ w'.cell? ⟨gb399, 2, none⟩ = some (.slice (some ad400) t391.length co32) ∧ w'.cell? ⟨gb399, 3, none⟩ = some (.slice Ao33 t394.length co33) ∧ w'.cell? ⟨gb399, 4, none⟩ = some (.int .u32 t397) ∧ w'.cell? ⟨gb399, 5, none⟩ = some (.int .u32 t398) ∧ w'.cell? ⟨gb382, 0, none⟩ = some (.int .i64 a0_0) ∧ w'.cell? ⟨gb382, 1, none⟩ = some (.slice A0_1 l0_1.length c0_1) ∧ w'.cell? ⟨gb382, 2, none⟩ = some (.slice A0_2 l0_2.length c0_2) ∧ w'.cell? ⟨gb382, 3, none⟩ = some (.slice A0_3 l0_3.length c0_3) ∧ w'.cell? ⟨gb382, 4, none⟩ = some (.int .u32 a0_4) ∧ w'.cell? ⟨gb382, 5, none⟩ = some (.int .u32 a0_5) ∧ w'.cell? (ad400.add (((ji37)).toNat * 4)) = some (.bool ((rd_T61 t391 (ji37)).f0)) ∧ w'.cell? ⟨(ad400.add (((ji37)).toNat * 4)).block, (ad400.add (((ji37)).toNat * 4)).off + 1, none⟩ = some (.int .i64 ((rd_T61 t391 (ji37)).f1.f0)) ∧ w'.cell? ⟨(ad400.add (((ji37)).toNat * 4)).block, (ad400.add (((ji37)).toNat * 4)).off + 2, none⟩ = some (.slice A400_2 ((rd_T61 t391 (ji37)).f1.f1).length c400_2) ∧ w'.cell? ⟨(ad400.add (((ji37)).toNat * 4)).block, (ad400.add (((ji37)).toNat * 4)).off + 3, none⟩ = some (.slice A400_3 ((rd_T61 t391 (ji37)).f1.f2).length c400_3)) (ds := [13, 15]) (tf 0 16) (by kernel_rfl) rfl rfl ⟨(blk_cell BK399.out 0).trans rfl, (blk_cell BK399.out 1).trans rfl, (blk_cell BK399.out 2).trans rfl, (blk_cell BK399.out 3).trans rfl, (blk_cell BK399.out 4).trans rfl, (blk_cell BK399.out 5).trans rfl, (blk_cell BK382.out 0).trans rfl, (blk_cell BK382.out 1).trans rfl, (blk_cell BK382.out 2).trans rfl, (blk_cell BK382.out 3).trans rfl, (blk_cell BK382.out 4).trans rfl, (blk_cell BK382.out 5).trans rfl, hx400_0, hx400_1, hx400_2, hx400_3⟩ (fun hHeld => ?_); refine with_tabW dragomanlaw11_CondTwice.tab7 dragomanlaw11_CondTwice.bits7 (fun HT_ HW_ => ?_)
                  generalize w41.drew = w42 at HO390 HO393 HO396 BK382 BK383 BK399 HB HL400_2 HL400_3 HR400_2 HR400_3 hx400_0 hx400_1 hx400_2 hx400_3 hHeld ⊢
                  refine pure_ (i := 0) (N := some 24) (v := ?_) (a' := ?_) (tf 1 15) rfl rfl (any_of HT_.out (by kernel_rfl)) (fun _ _ _ h => h) (Or.inl ⟨by rfl, ?_⟩) ?_ ?_
                  rotate_left
                  · intro w'
                    go_simp
                    with_reducible rfl
                  rotate_left
                  · simp only [Act.put, sT, sZ, sS, i64_w, i32_w]
                    rfl
                  refine pure_ (i := 2) (N := some 26) (v := ?_) (a' := ?_) #[true, false, true, false, false, false, false, false, false, false, false, false, false, false, false, false] rfl rfl (any_of HT_.out (by kernel_rfl)) (fun _ _ _ h => h) (Or.inl ⟨by rfl, ?_⟩) ?_ ?_
                  rotate_left
                  · intro w'
                    go_simp
                    with_reducible rfl
                  rotate_left
                  · simp only [Act.put, sT, sZ, sS, i64_w, i32_w]
                    rfl
                  refine pure_ (i := 4) (N := some 28) (v := ?_) (a' := ?_) #[true, false, true, false, true, false, false, false, false, false, false, false, false, false, false, false] rfl rfl (any_of HT_.out (by kernel_rfl)) (fun _ _ _ h => h) (Or.inl ⟨by rfl, ?_⟩) ?_ ?_
                  rotate_left
                  · intro w'
                    go_simp
                    with_reducible rfl
                  rotate_left
                  · simp only [Act.put, sT, sZ, sS, i64_w, i32_w]
                    rfl
                  refine pure_ (i := 5) (N := some 29) (v := ?_) (a' := ?_) #[true, false, true, false, true, true, false, false, false, false, false, false, false, false, false, false] rfl rfl (any_of HT_.out (by kernel_rfl)) (fun _ _ _ h => h) (Or.inl ⟨by rfl, ?_⟩) ?_ ?_
                  rotate_left
                  · intro w'
                    go_simp
                    with_reducible rfl
                  rotate_left
                  · simp only [Act.put, sT, sZ, sS, i64_w, i32_w]
                    rfl
                  refine pure_ (i := 6) (N := some 30) (v := ?_) (a' := ?_) #[true, false, true, false, true, true, true, false, false, false, false, false, false, false, false, false] rfl rfl (any_of HT_.out (by kernel_rfl)) (fun _ _ _ h => h) (Or.inl ⟨by rfl, ?_⟩) ?_ ?_
                  rotate_left
                  · intro w'
                    go_simp
                    with_reducible rfl
                  rotate_left
                  · simp only [Act.put, sT, sZ, sS, i64_w, i32_w]
                    rfl
                  refine take_ (i := 1) (N := some 25) (v := ?_) (a' := ?_) #[true, true, true, false, true, true, true, false, false, false, false, false, false, false, false, false] rfl rfl (take_ofW HT_.out HW_.out (by kernel_rfl)) (fun _ _ _ h => h) (Or.inl ⟨by rfl, ?_⟩) hHeld ?_ ?_
                  rotate_left
                  · rintro w' ⟨s0, s1, s2, s3, s4, s5, s6, s7, s8, s9, s10, s11, s12, s13, s14, s15⟩
                    go_simp
                    with_reducible rfl
                  rotate_left
                  · simp only [Act.put, sT, sZ, sS, i64_w, i32_w]
                    rfl
                  refine take_ (i := 3) (N := some 27) (v := ?_) (a' := ?_) (tf 7 9) rfl rfl (take_ofW HT_.out HW_.out (by kernel_rfl)) (fun _ _ _ h => h) (Or.inl ⟨by rfl, ?_⟩) hHeld ?_ ?_
                  rotate_left
                  · rintro w' ⟨s0, s1, s2, s3, s4, s5, s6, s7, s8, s9, s10, s11, s12, s13, s14, s15⟩
                    go_simp
                    with_reducible rfl
                  rotate_left
                  · simp only [Act.put, sT, sZ, sS, i64_w, i32_w]
                    rfl
                  refine take_ (i := 7) (N := some 31) (v := ?_) (a' := ?_) (tf 8 8) rfl rfl (take_ofW HT_.out HW_.out (by kernel_rfl)) (fun _ _ _ h => h) (Or.inl ⟨by rfl, ?_⟩) hHeld ?_ ?_
                  rotate_left
                  · rintro w' ⟨s0, s1, s2, s3, s4, s5, s6, s7, s8, s9, s10, s11, s12, s13, s14, s15⟩
                    go_simp
                    with_reducible rfl
                  rotate_left
                  · simp only [Act.put, sT, sZ, sS, i64_w, i32_w]
                    rfl
                  refine pure_ (i := 8) (N := some 32) (v := ?_) (a' := ?_) (tf 9 7) rfl rfl (any_of HT_.out (by kernel_rfl)) (fun _ _ _ h => h) (Or.inl ⟨by rfl, ?_⟩) ?_ ?_
                  rotate_left
                  · intro w'
                    go_simp
                    with_reducible rfl
                  rotate_left
                  · simp only [Act.put, sT, sZ, sS, i64_w, i32_w]
                    rfl
                  refine pure_ (i := 9) (N := some 33) (v := ?_) (a' := ?_) (tf 10 6) rfl rfl (any_of HT_.out (by kernel_rfl)) (fun _ _ _ h => h) (Or.inl ⟨by rfl, ?_⟩) ?_ ?_
                  rotate_left
                  · intro w'
                    go_simp
                    with_reducible rfl
                  rotate_left
                  · simp only [Act.put, sT, sZ, sS, i64_w, i32_w]
                    rfl
                  refine pure_ (i := 10) (N := some 34) (v := ?_) (a' := ?_) (tf 11 5) rfl rfl (any_of HT_.out (by kernel_rfl)) (fun _ _ _ h => h) (Or.inl ⟨by rfl, ?_⟩) ?_ ?_
                  rotate_left
                  · intro w'
                    go_simp
                    with_reducible rfl
                  rotate_left
                  · simp only [Act.put, sT, sZ, sS, i64_w, i32_w]
                    rfl
                  refine take_ (i := 11) (N := some 35) (v := ?_) (a' := ?_) (tf 12 4) rfl rfl (take_ofW HT_.out HW_.out (by kernel_rfl)) (fun _ _ _ h => h) (Or.inl ⟨by rfl, ?_⟩) hHeld ?_ ?_
                  rotate_left
                  · rintro w' ⟨s0, s1, s2, s3, s4, s5, s6, s7, s8, s9, s10, s11, s12, s13, s14, s15⟩
                    go_simp
                    with_reducible rfl
                  rotate_left
                  · simp only [Act.put, sT, sZ, sS, i64_w, i32_w]
                    rfl
                  refine one_ (i := 12) (N := some 36) (tf 13 3) rfl rfl (one_of HT_.out (by kernel_rfl)) (by decide) (fun K hK => ?_)
                  refine value_ (w1 := ?_) (v := ?_) (by rfl) rfl ?_ ?_
                  rotate_left 2
                  · go_simp
                    constructor
                    · rfl
                    · rfl
                  refine hK.out _ _ ⟨(blk_cell (blk_alloc BK399.out _) 0).trans rfl, (blk_cell (blk_alloc BK399.out _) 1).trans rfl, (blk_cell (blk_alloc BK399.out _) 2).trans rfl, (blk_cell (blk_alloc BK399.out _) 3).trans rfl, (blk_cell (blk_alloc BK399.out _) 4).trans rfl, (blk_cell (blk_alloc BK399.out _) 5).trans rfl, (blk_cell (blk_alloc BK382.out _) 0).trans rfl, (blk_cell (blk_alloc BK382.out _) 1).trans rfl, (blk_cell (blk_alloc BK382.out _) 2).trans rfl, (blk_cell (blk_alloc BK382.out _) 3).trans rfl, (blk_cell (blk_alloc BK382.out _) 4).trans rfl, (blk_cell (blk_alloc BK382.out _) 5).trans rfl, (World.cell?_alloc_lt _ _ _ (World.block_lt_of_cell? _ _ (hHeld.2.2.2.2.2.2.2.2.2.2.2.2.1))).trans (hHeld.2.2.2.2.2.2.2.2.2.2.2.2.1), (World.cell?_alloc_lt _ _ _ (World.block_lt_of_cell? _ _ (hHeld.2.2.2.2.2.2.2.2.2.2.2.2.2.1))).trans (hHeld.2.2.2.2.2.2.2.2.2.2.2.2.2.1), (World.cell?_alloc_lt _ _ _ (World.block_lt_of_cell? _ _ (hHeld.2.2.2.2.2.2.2.2.2.2.2.2.2.2.1))).trans (hHeld.2.2.2.2.2.2.2.2.2.2.2.2.2.2.1), (World.cell?_alloc_lt _ _ _ (World.block_lt_of_cell? _ _ (hHeld.2.2.2.2.2.2.2.2.2.2.2.2.2.2.2))).trans (hHeld.2.2.2.2.2.2.2.2.2.2.2.2.2.2.2)⟩ (fun hHeld => ?_)
                  clear hK K
                  refine norm_ (a' := ?_) ?_ ?_
                  rotate_left
                  · show Act.put _ (some 36) _ = _
                    simp only [Act.put, sT, sZ, sS, i64_w, i32_w]
                    rfl
                  refine last_ (i := 13) (N := some 37) (tf 14 2) rfl rfl (one_of HT_.out (by kernel_rfl)) (by decide) (fun K hK => ?_)
                  refine Kd.N_append_step k61 (w0 := w) w.heap.size (by rfl) (.tmp 25) (.tmp 36) 43 61 (.agg #[(.bool false), (.int .i64 0), (.slice none 0 0), (.slice none 0 0)]) 64 rfl Try.underlying43 info61 rfl (by decide) (by omega) (.slice (some ad400) t391.length co32) t391 (⟨(rd_T61 t391 (ji37)).f0, (⟨(rd_T61 t391 (ji37)).f1.f0, (rd_T61 t391 (ji37)).f1.f1, (rd_T61 t391 (ji37)).f1.f2⟩ : S25)⟩ : S61) [.bool ((rd_T61 t391 (ji37)).f0), .int .i64 ((rd_T61 t391 (ji37)).f1.f0), .slice A400_2 ((rd_T61 t391 (ji37)).f1.f1).length c400_2, .slice A400_3 ((rd_T61 t391 (ji37)).f1.f2).length c400_3] (fun k_ => some k_ ≠ (.slice Ao31 t388.length co31 : Value).ownBlock ∧ some k_ ≠ (.slice Ao33 t394.length co33 : Value).ownBlock ∧ k_ ≠ gb382 ∧ k_ ≠ gb383 ∧ k_ ≠ gb399) (fun k_ => ((fun k_ => some k_ ≠ (.slice Ao31 t388.length co31 : Value).ownBlock ∧ some k_ ≠ (.slice Ao33 t394.length co33 : Value).ownBlock ∧ k_ ≠ gb382 ∧ k_ ≠ gb383 ∧ k_ ≠ gb399)) k_ ∧ some k_ ≠ (.slice (some ad400) t391.length co32 : Value).ownBlock) rfl rfl ?aP (fun _ hk => hk) ?aF ?aO ?aB ?aS ?aL ?_
                  (case aP => exact (k61_mkF _ _ (⟨(rd_T61 t391 (ji37)).f0, (⟨(rd_T61 t391 (ji37)).f1.f0, (rd_T61 t391 (ji37)).f1.f1, (rd_T61 t391 (ji37)).f1.f2⟩ : S25)⟩ : S61) (Kd.V_reads' (Kd.V_mono (ok' := (fun k_ => ((fun k_ => some k_ ≠ (.slice Ao31 t388.length co31 : Value).ownBlock ∧ some k_ ≠ (.slice Ao33 t394.length co33 : Value).ownBlock ∧ k_ ≠ gb382 ∧ k_ ≠ gb383 ∧ k_ ≠ gb399)) k_ ∧ some k_ ≠ (.slice (some ad400) t391.length co32 : Value).ownBlock)) (HL400_2.out) (fun k_ hk => ⟨⟨hk.1.1, ⟨hk.1.2.1, ⟨hk.1.2.2.1, ⟨hk.1.2.2.2.1, hk.1.2.2.2.2⟩⟩⟩⟩, hk.2⟩))).2.1 (Kd.V_F (Kd.V_mono (ok' := (fun k_ => ((fun k_ => some k_ ≠ (.slice Ao31 t388.length co31 : Value).ownBlock ∧ some k_ ≠ (.slice Ao33 t394.length co33 : Value).ownBlock ∧ k_ ≠ gb382 ∧ k_ ≠ gb383 ∧ k_ ≠ gb399)) k_ ∧ some k_ ≠ (.slice (some ad400) t391.length co32 : Value).ownBlock)) (HL400_2.out) (fun k_ hk => ⟨⟨hk.1.1, ⟨hk.1.2.1, ⟨hk.1.2.2.1, ⟨hk.1.2.2.2.1, hk.1.2.2.2.2⟩⟩⟩⟩, hk.2⟩))) (Kd.V_reads' (Kd.V_mono (ok' := (fun k_ => ((fun k_ => some k_ ≠ (.slice Ao31 t388.length co31 : Value).ownBlock ∧ some k_ ≠ (.slice Ao33 t394.length co33 : Value).ownBlock ∧ k_ ≠ gb382 ∧ k_ ≠ gb383 ∧ k_ ≠ gb399)) k_ ∧ some k_ ≠ (.slice (some ad400) t391.length co32 : Value).ownBlock)) (HL400_3.out) (fun k_ hk => ⟨⟨hk.1.1, ⟨hk.1.2.1, ⟨hk.1.2.2.1, ⟨hk.1.2.2.2.1, hk.1.2.2.2.2⟩⟩⟩⟩, hk.2⟩))).2.1 (Kd.V_F (Kd.V_mono (ok' := (fun k_ => ((fun k_ => some k_ ≠ (.slice Ao31 t388.length co31 : Value).ownBlock ∧ some k_ ≠ (.slice Ao33 t394.length co33 : Value).ownBlock ∧ k_ ≠ gb382 ∧ k_ ≠ gb383 ∧ k_ ≠ gb399)) k_ ∧ some k_ ≠ (.slice (some ad400) t391.length co32 : Value).ownBlock)) (HL400_3.out) (fun k_ hk => ⟨⟨hk.1.1, ⟨hk.1.2.1, ⟨hk.1.2.2.1, ⟨hk.1.2.2.2.1, hk.1.2.2.2.2⟩⟩⟩⟩, hk.2⟩)))))
                  (case aB => exact (by repeat (first | (with_reducible first | exact HB.out | apply blA | apply blN | apply blD | refine bS ?_ GE382.out | refine bS ?_ GE383.out | refine bS ?_ GE399.out) | exact HB.out)))
                  (case aF => exact (fun k_ hk => ⟨Kd.fresh' (Kd.R_lt (uk_ HO390.out)) k_ hk, Kd.fresh' (Kd.N_lt (by (with_reducible repeat (first | apply Kd.N_alloc | apply Kd.N_drewN | apply Kd.N_drew)); exact HO396.out)) k_ hk, Kd.freshB (g := gb382) (o := .cells #[.int .i64 a0_0, .slice A0_1 l0_1.length c0_1, .slice A0_2 l0_2.length c0_2, .slice A0_3 l0_3.length c0_3, .int .u32 a0_4, .int .u32 a0_5] 46 (0, 0)) (up_ BK382.out) k_ hk, Kd.freshB (g := gb383) (o := .cells #[.int .u32 a1_0, .int .i64 a1_1, .slice A1_2 l1_2.length c1_2, .slice A1_3 l1_3.length c1_3, .int .u32 a1_4, .int .u32 a1_5, .int .i64 a1_6, .int .u32 a1_7] 50 (0, 0)) (up_ BK383.out) k_ hk, Kd.freshB (g := gb399) (o := .cells #[.int .i64 t387, .slice Ao31 t388.length co31, .slice (some ad400) t391.length co32, .slice Ao33 t394.length co33, .int .u32 t397, .int .u32 t398] 46 (0, 0)) (up_ BK399.out) k_ hk⟩))
                  (case aO => exact (by (with_reducible repeat (first | apply Kd.N_alloc | apply Kd.N_drewN | apply Kd.N_drew)); exact HO393.out))
                  (case aS => exact (below_size (by repeat (first | (with_reducible first | exact HB.out | apply blA | apply blN | apply blD | refine bS ?_ GE382.out | refine bS ?_ GE383.out | refine bS ?_ GE399.out) | exact HB.out))))
                  (case aL => have := LMc40.out; omega)
                  intro v402 w43 ho hb hg hat
                  rw [← Ny401.out] at ho
                  have n0_ := aM (blk_grown (g := gb382) (o := .cells #[.int .i64 a0_0, .slice A0_1 l0_1.length c0_1, .slice A0_2 l0_2.length c0_2, .slice A0_3 l0_3.length c0_3, .int .u32 a0_4, .int .u32 a0_5] 46 (0, 0)) (up_ BK382.out) hg (Kd.N_ne HO393.out BK382.out (by decide)))
                  have n1_ := aM (blk_grown (g := gb383) (o := .cells #[.int .u32 a1_0, .int .i64 a1_1, .slice A1_2 l1_2.length c1_2, .slice A1_3 l1_3.length c1_3, .int .u32 a1_4, .int .u32 a1_5, .int .i64 a1_6, .int .u32 a1_7] 50 (0, 0)) (up_ BK383.out) hg (Kd.N_ne HO393.out BK383.out (by decide)))
                  have n2_ := aM (Kd.R_over' (uk_ HO390.out) (Kd.N_typed (by (with_reducible repeat (first | apply Kd.N_alloc | apply Kd.N_drewN | apply Kd.N_drew)); exact HO393.out)) (by decide) hg)
                  have n3_ := aM (Kd.N_afterv (ok := (fun k_ => some k_ ≠ (.slice Ao31 t388.length co31 : Value).ownBlock ∧ k_ ≠ gb382 ∧ k_ ≠ gb383 ∧ k_ ≠ gb399)) (by (with_reducible repeat (first | apply Kd.N_alloc | apply Kd.N_drewN | apply Kd.N_drew)); exact Kd.N_mono HO396.out (fun _ hk => ⟨⟨hk.1, ⟨hk.2.2.1, ⟨hk.2.2.2.1, hk.2.2.2.2⟩⟩⟩, hk.2.1⟩)) hg hat)
                  have n4_ := aM (blk_grown (g := gb399) (o := .cells #[.int .i64 t387, .slice Ao31 t388.length co31, .slice (some ad400) t391.length co32, .slice Ao33 t394.length co33, .int .u32 t397, .int .u32 t398] 46 (0, 0)) (up_ BK399.out) hg (Kd.N_ne HO393.out BK399.out (by decide)))
                  have n5_ := aM (Kd.V_afterv (ok := (fun k_ => some k_ ≠ (.slice Ao31 t388.length co31 : Value).ownBlock ∧ some k_ ≠ (.slice Ao33 t394.length co33 : Value).ownBlock ∧ k_ ≠ gb382 ∧ k_ ≠ gb383 ∧ k_ ≠ gb399)) (by (with_reducible repeat (first | apply Kd.V_alloc | apply Kd.V_drewN | apply Kd.V_drew)); exact HL400_2.out) hg hat)
                  have n6_ := aM (Kd.V_afterv (ok := (fun k_ => some k_ ≠ (.slice Ao31 t388.length co31 : Value).ownBlock ∧ some k_ ≠ (.slice Ao33 t394.length co33 : Value).ownBlock ∧ k_ ≠ gb382 ∧ k_ ≠ gb383 ∧ k_ ≠ gb399)) (by (with_reducible repeat (first | apply Kd.V_alloc | apply Kd.V_drewN | apply Kd.V_drew)); exact HL400_3.out) hg hat)
                  have n7_ := aM (hb)
                  have n8_ := aM (ho)
                  clear BK382
                  clear BK383
                  clear HO390
                  clear HO396
                  clear BK399
                  clear HL400_2
                  clear HL400_3
                  clear HB
                  clear HO393
                  have BK382 := n0_
                  have BK383 := n1_
                  have HO390 := n2_
                  have HO396 := n3_
                  have BK399 := n4_
                  have HL400_2 := n5_
                  have HL400_3 := n6_
                  have HB := n7_
                  have HO403 := n8_
                  clear n0_ n1_ n2_ n3_ n4_ n5_ n6_ n7_ n8_
                  clear ho hb hg hat
                  obtain ⟨Ao44, co44, eo44⟩ := Kd.N_slice HO403.out
                  (first | subst eo44 | (injection eo44 with f1_ f2_ f3_; have f4_ := f1_.symm; have f5_ := f3_.symm; clear f1_ f2_ f3_; subst f4_; subst f5_))
                  refine hK.out _ _ ?_
                  clear hK K
                  refine norm_ (a' := ?_) ?_ ?_
                  rotate_left
                  · show Act.put _ (some 37) _ = _
                    simp only [Act.put, sT, sZ, sS, i64_w, i32_w]
                    rfl
                  refine pure_ (i := 14) (N := some 38) (v := ?_) (a' := ?_) (tf 15 1) rfl rfl (any_of HT_.out (by kernel_rfl)) (fun _ _ _ h => h) (Or.inl ⟨by rfl, ?_⟩) ?_ ?_
                  rotate_left
                  · intro w'
                    go_simp
                    with_reducible rfl
                  rotate_left
                  · simp only [Act.put, sT, sZ, sS, i64_w, i32_w]
                    rfl
                  refine last_ (i := 15) (N := none) (tf 16 0) rfl rfl (one_of HT_.out (by kernel_rfl)) (by decide) (fun K hK => ?_)
                  have hs45 : w43.cell? ⟨gb399, 2, none⟩ = some (.slice (some ad400) t391.length co32) := (blk_cell BK399.out 2).trans rfl
                  have hfs45 := bF BK399.out 2
                  have hns45_0 := NB382_399.out
                  have hns45_1 := NB383_399.out
                  have hms45_0 := NB399_382.out
                  have hms45_1 := NB399_383.out
                  refine skip_ (w1 := ?_) (by rfl) rfl ?_ ?_
                  rotate_left
                  · go_simp
                    rfl
                  refine hK.out _ _ ?_
                  clear hK K
                  refine done_ (done_of HT_.out (by kernel_rfl)) ?_
                  try go_wp2
                  go_meet
                  case rel => exact ⟨_, (y401), (.slice Ao44 y401.length co44), H', ⟨by have := HJ5.out; first | omega | exact Nat.le_refl _⟩, ⟨by (with_reducible repeat (first | apply kA | apply kN | apply kD)); exact Kd.R_mono (Kd.R_far (p := ⟨gb399, 2, none⟩) (Kd.R_types HO390.out BK399.out (by decide)) (fun _ hk => hk.2) (.slice Ao44 y401.length co44)) (fun _ hk => trivial)⟩, ⟨by (with_reducible repeat (first | apply Kd.N_alloc | apply Kd.N_drewN | apply Kd.N_drew)); exact Kd.N_mono (Kd.N_far (p := ⟨gb399, 2, none⟩) (Kd.N_mono HO403.out (fun k_ hk => (⟨hk, hk.2.2.2.2⟩ : _ ∧ k_ ≠ gb399))) (fun _ hk => hk.2) (.slice Ao44 y401.length co44)) (fun _ hk => ⟨hk.1.1, ⟨hk.1.2.1, ⟨hk.1.2.2.1, ⟨hk.1.2.2.2.1, hk.1.2.2.2.2⟩⟩⟩⟩)⟩, ⟨by (with_reducible repeat (first | apply Kd.N_alloc | apply Kd.N_drewN | apply Kd.N_drew)); exact Kd.N_mono (Kd.N_far (p := ⟨gb399, 2, none⟩) (Kd.N_mono HO396.out (fun k_ hk => (⟨hk, hk.1.2.2.2⟩ : _ ∧ k_ ≠ gb399))) (fun _ hk => hk.2) (.slice Ao44 y401.length co44)) (fun _ hk => ⟨hk.1.1.1, ⟨hk.1.2, ⟨hk.1.1.2.1, ⟨hk.1.1.2.2.1, hk.1.1.2.2.2⟩⟩⟩⟩)⟩, ⟨by (with_reducible repeat (first | apply bkN | apply bkD | apply bkA)); refine blk_far ?_ NB382_399.out _; (with_reducible repeat (first | apply bkN | apply bkD | apply bkA)); exact BK382.out⟩, ⟨by (with_reducible repeat (first | apply bkN | apply bkD | apply bkA)); refine blk_far ?_ NB383_399.out _; (with_reducible repeat (first | apply bkN | apply bkD | apply bkA)); exact BK383.out⟩, ⟨by (with_reducible repeat (first | apply bkN | apply bkD | apply bkA)); refine blk_put (cs := #[.int .i64 t387, .slice Ao31 t388.length co31, .slice (some ad400) t391.length co32, .slice Ao33 t394.length co33, .int .u32 t397, .int .u32 t398]) ?_ 2 _ rfl; (with_reducible repeat (first | apply bkN | apply bkD | apply bkA)); exact BK399.out⟩, ⟨by repeat (first | (with_reducible first | exact HB.out | apply blA | apply blN | apply blD | refine bS ?_ GE382.out | refine bS ?_ GE383.out | refine bS ?_ GE399.out) | exact HB.out)⟩⟩
                · rw [if_neg c40] at H
                  exact absurd H (by simp)
              · rw [if_neg c39] at H
                exact absurd H (by simp)
            · rw [if_neg c38] at H
              exact absurd H (by simp)
        · rw [if_neg c35] at H
          have c35b0 : decide (0 < (l0_2.length : Int)) = false := decide_eq_false c35
          have c35b1 : decide (0 < l0_2.length) = false := decide_eq_false (by omega)
          clear c35
          (first | rw [c35b0] | (simp only [i64_w, i32_w]; rw [c35b0]) | rw [c35b1] | skip)
          have H' := aM H
          clear H
          go_wp2
          go_meet
          case rel => exact ⟨_, (t391), (.slice Ao32 t391.length co32), H', ⟨by have := HJ5.out; first | omega | exact Nat.le_refl _⟩, ⟨by (with_reducible repeat (first | apply kA | apply kN | apply kD)); exact Kd.R_mono (Kd.R_far (p := ⟨gb399, 5, none⟩) (Kd.R_far (p := ⟨gb399, 4, none⟩) (Kd.R_far (p := ⟨gb399, 3, none⟩) (Kd.R_far (p := ⟨gb399, 2, none⟩) (Kd.R_far (p := ⟨gb399, 1, none⟩) (Kd.R_far (p := ⟨gb399, 0, none⟩) (Kd.R_types HO390.out BK399.out (by decide)) (fun _ hk => hk.2) (.int .i64 t387)) (fun _ hk => hk.2) (.slice Ao31 t388.length co31)) (fun _ hk => hk.2) (.slice Ao32 t391.length co32)) (fun _ hk => hk.2) (.slice Ao33 t394.length co33)) (fun _ hk => hk.2) (.int .u32 t397)) (fun _ hk => hk.2) (.int .u32 t398)) (fun _ hk => trivial)⟩, ⟨by (with_reducible repeat (first | apply Kd.N_alloc | apply Kd.N_drewN | apply Kd.N_drew)); exact Kd.N_mono (Kd.N_far (p := ⟨gb399, 5, none⟩) (Kd.N_far (p := ⟨gb399, 4, none⟩) (Kd.N_far (p := ⟨gb399, 3, none⟩) (Kd.N_far (p := ⟨gb399, 2, none⟩) (Kd.N_far (p := ⟨gb399, 1, none⟩) (Kd.N_far (p := ⟨gb399, 0, none⟩) (Kd.N_mono HO393.out (fun k_ hk => (⟨hk, hk.2⟩ : _ ∧ k_ ≠ gb399))) (fun _ hk => hk.2) (.int .i64 t387)) (fun _ hk => hk.2) (.slice Ao31 t388.length co31)) (fun _ hk => hk.2) (.slice Ao32 t391.length co32)) (fun _ hk => hk.2) (.slice Ao33 t394.length co33)) (fun _ hk => hk.2) (.int .u32 t397)) (fun _ hk => hk.2) (.int .u32 t398)) (fun _ hk => ⟨hk.1.1.1, ⟨hk.1.1.2.1, ⟨hk.1.1.2.2.1, ⟨hk.1.1.2.2.2, hk.1.2⟩⟩⟩⟩)⟩, ⟨by (with_reducible repeat (first | apply Kd.N_alloc | apply Kd.N_drewN | apply Kd.N_drew)); exact Kd.N_mono (Kd.N_far (p := ⟨gb399, 5, none⟩) (Kd.N_far (p := ⟨gb399, 4, none⟩) (Kd.N_far (p := ⟨gb399, 3, none⟩) (Kd.N_far (p := ⟨gb399, 2, none⟩) (Kd.N_far (p := ⟨gb399, 1, none⟩) (Kd.N_far (p := ⟨gb399, 0, none⟩) (Kd.N_mono HO396.out (fun k_ hk => (⟨hk, hk.2⟩ : _ ∧ k_ ≠ gb399))) (fun _ hk => hk.2) (.int .i64 t387)) (fun _ hk => hk.2) (.slice Ao31 t388.length co31)) (fun _ hk => hk.2) (.slice Ao32 t391.length co32)) (fun _ hk => hk.2) (.slice Ao33 t394.length co33)) (fun _ hk => hk.2) (.int .u32 t397)) (fun _ hk => hk.2) (.int .u32 t398)) (fun _ hk => ⟨hk.1.1.1, ⟨hk.1.1.2.1, ⟨hk.1.1.2.2.1, ⟨hk.1.1.2.2.2, hk.1.2⟩⟩⟩⟩)⟩, ⟨by (with_reducible repeat (first | apply bkN | apply bkD | apply bkA)); refine blk_far ?_ NB382_399.out _; (with_reducible repeat (first | apply bkN | apply bkD | apply bkA)); refine blk_far ?_ NB382_399.out _; (with_reducible repeat (first | apply bkN | apply bkD | apply bkA)); refine blk_far ?_ NB382_399.out _; (with_reducible repeat (first | apply bkN | apply bkD | apply bkA)); refine blk_far ?_ NB382_399.out _; (with_reducible repeat (first | apply bkN | apply bkD | apply bkA)); refine blk_far ?_ NB382_399.out _; (with_reducible repeat (first | apply bkN | apply bkD | apply bkA)); refine blk_far ?_ NB382_399.out _; (with_reducible repeat (first | apply bkN | apply bkD | apply bkA)); exact BK382.out⟩, ⟨by (with_reducible repeat (first | apply bkN | apply bkD | apply bkA)); refine blk_far ?_ NB383_399.out _; (with_reducible repeat (first | apply bkN | apply bkD | apply bkA)); refine blk_far ?_ NB383_399.out _; (with_reducible repeat (first | apply bkN | apply bkD | apply bkA)); refine blk_far ?_ NB383_399.out _; (with_reducible repeat (first | apply bkN | apply bkD | apply bkA)); refine blk_far ?_ NB383_399.out _; (with_reducible repeat (first | apply bkN | apply bkD | apply bkA)); refine blk_far ?_ NB383_399.out _; (with_reducible repeat (first | apply bkN | apply bkD | apply bkA)); refine blk_far ?_ NB383_399.out _; (with_reducible repeat (first | apply bkN | apply bkD | apply bkA)); exact BK383.out⟩, ⟨by (with_reducible repeat (first | apply bkN | apply bkD | apply bkA)); refine blk_put (cs := #[.int .i64 t387, .slice Ao31 t388.length co31, .slice Ao32 t391.length co32, .slice Ao33 t394.length co33, .int .u32 t397, .int .u32 0]) ?_ 5 _ rfl; (with_reducible repeat (first | apply bkN | apply bkD | apply bkA)); refine blk_put (cs := #[.int .i64 t387, .slice Ao31 t388.length co31, .slice Ao32 t391.length co32, .slice Ao33 t394.length co33, .int .u32 0, .int .u32 0]) ?_ 4 _ rfl; (with_reducible repeat (first | apply bkN | apply bkD | apply bkA)); refine blk_put (cs := #[.int .i64 t387, .slice Ao31 t388.length co31, .slice Ao32 t391.length co32, .slice none 0 0, .int .u32 0, .int .u32 0]) ?_ 3 _ rfl; (with_reducible repeat (first | apply bkN | apply bkD | apply bkA)); refine blk_put (cs := #[.int .i64 t387, .slice Ao31 t388.length co31, .slice none 0 0, .slice none 0 0, .int .u32 0, .int .u32 0]) ?_ 2 _ rfl; (with_reducible repeat (first | apply bkN | apply bkD | apply bkA)); refine blk_put (cs := #[.int .i64 t387, .slice none 0 0, .slice none 0 0, .slice none 0 0, .int .u32 0, .int .u32 0]) ?_ 1 _ rfl; (with_reducible repeat (first | apply bkN | apply bkD | apply bkA)); refine blk_put (cs := #[.int .i64 0, .slice none 0 0, .slice none 0 0, .slice none 0 0, .int .u32 0, .int .u32 0]) ?_ 0 _ rfl; (with_reducible repeat (first | apply bkN | apply bkD | apply bkA)); exact BK399.out⟩, ⟨by repeat (first | (with_reducible first | exact HB.out | apply blA | apply blN | apply blD | refine bS ?_ GE382.out | refine bS ?_ GE383.out | refine bS ?_ GE399.out) | exact HB.out)⟩⟩
       case rest =>
        clear HC23
        obtain ⟨kq, x400002_22, u400002, HA, HJ22, HO_400001, HO_400002, HO_400003, BK382, BK383, BK399, HB⟩ := hcut
        cases kq with
        | zero => exact absurd HA.out (by simp [dragomanlaw11_CondTwice.j1])
        | succ kj22 =>
         have H := HA.out
         clear HA
         simp only [dragomanlaw11_CondTwice.j1] at H
         have HC46 := aM H
         clear H
         have hnb47 := NB382_383.out
         have hnc47 := NB383_382.out
         have hnb48 := NB382_399.out
         have hnc48 := NB399_382.out
         have hcz49_0 : wc.cell? ⟨gb382, 0, none⟩ = some (.int .i64 a0_0) := (blk_cell BK382.out 0).trans rfl
         have hcz49_1 : wc.cell? ⟨gb382, 1, none⟩ = some (.slice A0_1 l0_1.length c0_1) := (blk_cell BK382.out 1).trans rfl
         have hcz49_2 : wc.cell? ⟨gb382, 2, none⟩ = some (.slice A0_2 l0_2.length c0_2) := (blk_cell BK382.out 2).trans rfl
         have hcz49_3 : wc.cell? ⟨gb382, 3, none⟩ = some (.slice A0_3 l0_3.length c0_3) := (blk_cell BK382.out 3).trans rfl
         have hcz49_4 : wc.cell? ⟨gb382, 4, none⟩ = some (.int .u32 a0_4) := (blk_cell BK382.out 4).trans rfl
         have hcz49_5 : wc.cell? ⟨gb382, 5, none⟩ = some (.int .u32 a0_5) := (blk_cell BK382.out 5).trans rfl
         have hfz49_0 := bF BK382.out 0
         have hfz49_1 := bF BK382.out 1
         have hfz49_2 := bF BK382.out 2
         have hfz49_3 := bF BK382.out 3
         have hfz49_4 := bF BK382.out 4
         have hfz49_5 := bF BK382.out 5
         go_upto_if 42 with (fail)
         go_cut [] (fun wc => ∃ (kq : Nat) (x400003_45 : List (S64)) (u400003 : Value), Aside0 (dragomanlaw11_CondTwice.j2 kq a0_0 l0_1 l0_2 l0_3 a0_4 a0_5 a1_0 a1_1 l1_2 l1_3 a1_4 a1_5 a1_6 a1_7 t387 t388 x400002_22 x400003_45 t397 t398 = some r) ∧ Aside0 (kq ≤ kj22) ∧ Aside0 (Kd.R k83 83 wc w.heap.size (fun _ => True) (.slice Ao31 t388.length co31) t388) ∧ Aside0 (Kd.N k61 61 wc w.heap.size (fun k_ => some k_ ≠ ((.slice Ao31 t388.length co31) : Value).ownBlock ∧ some k_ ≠ (u400003 : Value).ownBlock ∧ k_ ≠ gb382 ∧ k_ ≠ gb383 ∧ k_ ≠ gb399) u400002 x400002_22) ∧ Aside0 (Kd.N k64 64 wc w.heap.size (fun k_ => some k_ ≠ ((.slice Ao31 t388.length co31) : Value).ownBlock ∧ some k_ ≠ (u400002 : Value).ownBlock ∧ k_ ≠ gb382 ∧ k_ ≠ gb383 ∧ k_ ≠ gb399) u400003 x400003_45) ∧ Aside0 (wc.heap[gb382]? = some (.cells #[.int .i64 a0_0, (.slice A0_1 l0_1.length c0_1), (.slice A0_2 l0_2.length c0_2), (.slice A0_3 l0_3.length c0_3), .int .u32 a0_4, .int .u32 a0_5] 46 (0, 0))) ∧ Aside0 (wc.heap[gb383]? = some (.cells #[.int .u32 a1_0, .int .i64 a1_1, (.slice A1_2 l1_2.length c1_2), (.slice A1_3 l1_3.length c1_3), .int .u32 a1_4, .int .u32 a1_5, .int .i64 a1_6, .int .u32 a1_7] 50 (0, 0))) ∧ Aside0 (wc.heap[gb399]? = some (.cells #[.int .i64 t387, (.slice Ao31 t388.length co31), u400002, u400003, .int .u32 t397, .int .u32 t398] 46 (0, 0))) ∧ Aside0 (Below w.heap.size w wc))
         case first =>
          have H := HC46.out
          clear HC46
          by_cases c50 : (l0_3.length : Int) > 0
          · rw [if_pos c50] at H
            have c50b0 : decide (0 < (l0_3.length : Int)) = true := decide_eq_true c50
            have c50b1 : decide (0 < l0_3.length) = true := decide_eq_true (by omega)
            clear c50
            (first | rw [c50b0] | (simp only [i64_w, i32_w]; rw [c50b0]) | rw [c50b1] | skip)
            by_cases c51 : (l0_3.length : Int) = 0
            · rw [if_pos c51] at H
              exact absurd H (by simp)
            · rw [if_neg c51] at H
              have c51b0 : ((l0_3.length : Int) == 0) = false := beq_eq_false_iff_ne.mpr c51
              have c51b1 : ((l0_3.length : Int) != 0) = true := bne_iff_ne.mpr c51
              have c51b2 : ¬ (l0_3 = []) := fun h_ => c51 (by rw [h_]; rfl)
              obtain ⟨ji52, hji52⟩ : ∃ j_ : Int, (Int.tmod (wrap64 (a2)) (l0_3.length : Int)) = j_ := ⟨_, rfl⟩
              replace H : (if 0 ≤ (ji52) then (if (ji52) < (t394.length : Int) then (if t394.length < 4398046511104 then (dragomanlaw11_CondTwice.j2 kj22 a0_0 l0_1 l0_2 l0_3 a0_4 a0_5 a1_0 a1_1 l1_2 l1_3 a1_4 a1_5 a1_6 a1_7 t387 t388 x400002_22 (t394 ++ [(⟨(rd_T64 t394 (ji52)).f0, (rd_T64 t394 (ji52)).f1⟩ : S64)]) t397 t398) else (none)) else (none)) else (none)) = some r := by first | (rw [hji52] at H; exact H) | (simp only [hji52] at H ⊢; exact H)
              by_cases c53 : 0 ≤ (ji52)
              · rw [if_pos c53] at H
                have c53b0 : decide (0 ≤ (ji52)) = true := decide_eq_true c53
                clear c53
                by_cases c54 : (ji52) < (t394.length : Int)
                · rw [if_pos c54] at H
                  have c54b0 : decide ((ji52) < (t394.length : Int)) = true := decide_eq_true c54
                  clear c54
                  by_cases c55 : t394.length < 4398046511104
                  · rw [if_pos c55] at H
                    have LMc55 := aM c55
                    clear c55
                    obtain ⟨y405, hy405⟩ : ∃ y_ : List (S64), y_ = (t394 ++ [(⟨(rd_T64 t394 (ji52)).f0, (rd_T64 t394 (ji52)).f1⟩ : S64)]) := ⟨_, rfl⟩
                    replace H : (dragomanlaw11_CondTwice.j2 kj22 a0_0 l0_1 l0_2 l0_3 a0_4 a0_5 a1_0 a1_1 l1_2 l1_3 a1_4 a1_5 a1_6 a1_7 t387 t388 x400002_22 y405 t397 t398) = some r := by first | (rw [hy405]; with_reducible exact H) | (have H2_ := (Option.bind_some _ _).symm.trans H; rw [hy405]; with_reducible exact H2_) | (have H2_ := (Option.bind_some _ _).symm.trans H; with_reducible exact H2_) | with_reducible exact H | (rw [hy405]; exact H) | exact H
                    have Ny405 := aM hy405
                    clear hy405
                    have H' := aM H
                    clear H
                    try go_wp2
                    have n0_ := aM (Kd.R_drew HO_400001.out)
                    have n1_ := aM (Kd.N_drew HO_400002.out)
                    have n2_ := aM (Kd.N_drew HO_400003.out)
                    have n3_ := aM (blk_drew BK382.out)
                    have n4_ := aM (blk_drew BK383.out)
                    have n5_ := aM (blk_drew BK399.out)
                    have n6_ := aM (below_drew1 HB.out)
                    clear HO_400001
                    clear HO_400002
                    clear HO_400003
                    clear BK382
                    clear BK383
                    clear BK399
                    clear HB
                    have HO_400001 := n0_
                    have HO_400002 := n1_
                    have HO_400003 := n2_
                    have BK382 := n3_
                    have BK383 := n4_
                    have BK399 := n5_
                    have HB := n6_
                    clear n0_ n1_ n2_ n3_ n4_ n5_ n6_
                    have p404 : 0 ≤ ((ji52) : Int) := of_decide_eq_true (by first | (with_reducible assumption) | assumption)
                    have q404 : (ji52) < (t394.length : Int) := of_decide_eq_true (by first | (with_reducible assumption) | assumption)
                    obtain ⟨ad404, A404_1, c404_1, e404, hx404_0, hx404_1, hl404_1, hi404_1⟩ := at_T64 (Kd.N_reads' HO_400003.out).2.2 (ji52) p404 q404
                    cases e404
                    obtain ⟨ce404, hce404, hMe404, hcc404⟩ := Kd.N_get HO_400003.out z64 (ji52) p404 (by first | exact q404 | exact of_decide_eq_true (by first | (with_reducible assumption) | assumption) | (have e_ := (Kd.N_reads' HO_400003.out).1; omega))
                    obtain ⟨ua404_1, uc404_1, rfl, ul404_1, ge404_1⟩ := k64_openF hMe404
                    have hv404_1 := hcc404 1 _ rfl
                    rw [add_field _ _ 1 (by omega)] at hv404_1
                    replace hv404_1 := Option.some.inj (hv404_1.symm.trans hx404_1)
                    injection hv404_1 with hva_ hvn_ hvc_
                    rw [hva_] at ge404_1
                    rw [hvc_] at ul404_1
                    have HL404_1 := aM (show Kd.V k76 76 _ w.heap.size _ _ ((rd_T64 t394 (ji52)).f1) from Kd.V_mk ul404_1 ge404_1)
                    clear hva_ hvn_ hvc_ ge404_1 ul404_1
                    clear hcc404 hce404
                    have HR404_1 := aM hi404_1
                    have HC404_1 := aM hl404_1
                    clear hi404_1 hl404_1
                    replace p404 := eq_true p404
                    replace q404 := eq_true q404
                    refine start_ (n := 16) (S := fun w' => w'.cell? ⟨gb399, 0, none⟩ = some (.int .i64 t387) ∧ w'.cell? ⟨gb399, 1, none⟩ = some (.slice Ao31 t388.length co31) ∧ w'.cell? ⟨gb399, 2, none⟩ = some (u400002) ∧ w'.cell? ⟨gb399, 3, none⟩ = some (.slice (some ad404) t394.length co33) ∧ w'.cell? ⟨gb399, 4, none⟩ = some (.int .u32 t397) ∧ w'.cell? ⟨gb399, 5, none⟩ = some (.int .u32 t398) ∧ w'.cell? ⟨gb382, 0, none⟩ = some (.int .i64 a0_0) ∧ w'.cell? ⟨gb382, 1, none⟩ = some (.slice A0_1 l0_1.length c0_1) ∧ w'.cell? ⟨gb382, 2, none⟩ = some (.slice A0_2 l0_2.length c0_2) ∧ w'.cell? ⟨gb382, 3, none⟩ = some (.slice A0_3 l0_3.length c0_3) ∧ w'.cell? ⟨gb382, 4, none⟩ = some (.int .u32 a0_4) ∧ w'.cell? ⟨gb382, 5, none⟩ = some (.int .u32 a0_5) ∧ w'.cell? (ad404.add (((ji52)).toNat * 2)) = some (.bool ((rd_T64 t394 (ji52)).f0)) ∧ w'.cell? ⟨(ad404.add (((ji52)).toNat * 2)).block, (ad404.add (((ji52)).toNat * 2)).off + 1, none⟩ = some (.slice A404_1 ((rd_T64 t394 (ji52)).f1).length c404_1)) (ds := [13, 15]) (tf 0 16) (by kernel_rfl) rfl rfl ⟨(blk_cell BK399.out 0).trans rfl, (blk_cell BK399.out 1).trans rfl, (blk_cell BK399.out 2).trans rfl, (blk_cell BK399.out 3).trans rfl, (blk_cell BK399.out 4).trans rfl, (blk_cell BK399.out 5).trans rfl, (blk_cell BK382.out 0).trans rfl, (blk_cell BK382.out 1).trans rfl, (blk_cell BK382.out 2).trans rfl, (blk_cell BK382.out 3).trans rfl, (blk_cell BK382.out 4).trans rfl, (blk_cell BK382.out 5).trans rfl, hx404_0, hx404_1⟩ (fun hHeld => ?_); refine with_tabW dragomanlaw11_CondTwice.tab9 dragomanlaw11_CondTwice.bits9 (fun HT_ HW_ => ?_)
                    generalize wc.drew = w56 at HO_400001 HO_400002 HO_400003 BK382 BK383 BK399 HB HL404_1 HR404_1 hx404_0 hx404_1 hHeld ⊢
                    refine pure_ (i := 0) (N := some 43) (v := ?_) (a' := ?_) (tf 1 15) rfl rfl (any_of HT_.out (by kernel_rfl)) (fun _ _ _ h => h) (Or.inl ⟨by rfl, ?_⟩) ?_ ?_
                    rotate_left
                    · intro w'
                      go_simp
                      with_reducible rfl
                    rotate_left
                    · simp only [Act.put, sT, sZ, sS, i64_w, i32_w]
                      rfl
                    refine pure_ (i := 2) (N := some 45) (v := ?_) (a' := ?_) #[true, false, true, false, false, false, false, false, false, false, false, false, false, false, false, false] rfl rfl (any_of HT_.out (by kernel_rfl)) (fun _ _ _ h => h) (Or.inl ⟨by rfl, ?_⟩) ?_ ?_
                    rotate_left
                    · intro w'
                      go_simp
                      with_reducible rfl
                    rotate_left
                    · simp only [Act.put, sT, sZ, sS, i64_w, i32_w]
                      rfl
                    refine pure_ (i := 4) (N := some 47) (v := ?_) (a' := ?_) #[true, false, true, false, true, false, false, false, false, false, false, false, false, false, false, false] rfl rfl (any_of HT_.out (by kernel_rfl)) (fun _ _ _ h => h) (Or.inl ⟨by rfl, ?_⟩) ?_ ?_
                    rotate_left
                    · intro w'
                      go_simp
                      with_reducible rfl
                    rotate_left
                    · simp only [Act.put, sT, sZ, sS, i64_w, i32_w]
                      rfl
                    refine pure_ (i := 5) (N := some 48) (v := ?_) (a' := ?_) #[true, false, true, false, true, true, false, false, false, false, false, false, false, false, false, false] rfl rfl (any_of HT_.out (by kernel_rfl)) (fun _ _ _ h => h) (Or.inl ⟨by rfl, ?_⟩) ?_ ?_
                    rotate_left
                    · intro w'
                      go_simp
                      with_reducible rfl
                    rotate_left
                    · simp only [Act.put, sT, sZ, sS, i64_w, i32_w]
                      rfl
                    refine pure_ (i := 6) (N := some 49) (v := ?_) (a' := ?_) #[true, false, true, false, true, true, true, false, false, false, false, false, false, false, false, false] rfl rfl (any_of HT_.out (by kernel_rfl)) (fun _ _ _ h => h) (Or.inl ⟨by rfl, ?_⟩) ?_ ?_
                    rotate_left
                    · intro w'
                      go_simp
                      with_reducible rfl
                    rotate_left
                    · simp only [Act.put, sT, sZ, sS, i64_w, i32_w]
                      rfl
                    refine take_ (i := 1) (N := some 44) (v := ?_) (a' := ?_) #[true, true, true, false, true, true, true, false, false, false, false, false, false, false, false, false] rfl rfl (take_ofW HT_.out HW_.out (by kernel_rfl)) (fun _ _ _ h => h) (Or.inl ⟨by rfl, ?_⟩) hHeld ?_ ?_
                    rotate_left
                    · rintro w' ⟨s0, s1, s2, s3, s4, s5, s6, s7, s8, s9, s10, s11, s12, s13⟩
                      go_simp
                      with_reducible rfl
                    rotate_left
                    · simp only [Act.put, sT, sZ, sS, i64_w, i32_w]
                      rfl
                    refine take_ (i := 3) (N := some 46) (v := ?_) (a' := ?_) (tf 7 9) rfl rfl (take_ofW HT_.out HW_.out (by kernel_rfl)) (fun _ _ _ h => h) (Or.inl ⟨by rfl, ?_⟩) hHeld ?_ ?_
                    rotate_left
                    · rintro w' ⟨s0, s1, s2, s3, s4, s5, s6, s7, s8, s9, s10, s11, s12, s13⟩
                      go_simp
                      with_reducible rfl
                    rotate_left
                    · simp only [Act.put, sT, sZ, sS, i64_w, i32_w]
                      rfl
                    refine take_ (i := 7) (N := some 50) (v := ?_) (a' := ?_) (tf 8 8) rfl rfl (take_ofW HT_.out HW_.out (by kernel_rfl)) (fun _ _ _ h => h) (Or.inl ⟨by rfl, ?_⟩) hHeld ?_ ?_
                    rotate_left
                    · rintro w' ⟨s0, s1, s2, s3, s4, s5, s6, s7, s8, s9, s10, s11, s12, s13⟩
                      go_simp
                      with_reducible rfl
                    rotate_left
                    · simp only [Act.put, sT, sZ, sS, i64_w, i32_w]
                      rfl
                    refine pure_ (i := 8) (N := some 51) (v := ?_) (a' := ?_) (tf 9 7) rfl rfl (any_of HT_.out (by kernel_rfl)) (fun _ _ _ h => h) (Or.inl ⟨by rfl, ?_⟩) ?_ ?_
                    rotate_left
                    · intro w'
                      go_simp
                      with_reducible rfl
                    rotate_left
                    · simp only [Act.put, sT, sZ, sS, i64_w, i32_w]
                      rfl
                    refine pure_ (i := 9) (N := some 52) (v := ?_) (a' := ?_) (tf 10 6) rfl rfl (any_of HT_.out (by kernel_rfl)) (fun _ _ _ h => h) (Or.inl ⟨by rfl, ?_⟩) ?_ ?_
                    rotate_left
                    · intro w'
                      go_simp
                      with_reducible rfl
                    rotate_left
                    · simp only [Act.put, sT, sZ, sS, i64_w, i32_w]
                      rfl
                    refine pure_ (i := 10) (N := some 53) (v := ?_) (a' := ?_) (tf 11 5) rfl rfl (any_of HT_.out (by kernel_rfl)) (fun _ _ _ h => h) (Or.inl ⟨by rfl, ?_⟩) ?_ ?_
                    rotate_left
                    · intro w'
                      go_simp
                      with_reducible rfl
                    rotate_left
                    · simp only [Act.put, sT, sZ, sS, i64_w, i32_w]
                      rfl
                    refine take_ (i := 11) (N := some 54) (v := ?_) (a' := ?_) (tf 12 4) rfl rfl (take_ofW HT_.out HW_.out (by kernel_rfl)) (fun _ _ _ h => h) (Or.inl ⟨by rfl, ?_⟩) hHeld ?_ ?_
                    rotate_left
                    · rintro w' ⟨s0, s1, s2, s3, s4, s5, s6, s7, s8, s9, s10, s11, s12, s13⟩
                      go_simp
                      with_reducible rfl
                    rotate_left
                    · simp only [Act.put, sT, sZ, sS, i64_w, i32_w]
                      rfl
                    refine one_ (i := 12) (N := some 55) (tf 13 3) rfl rfl (one_of HT_.out (by kernel_rfl)) (by decide) (fun K hK => ?_)
                    refine value_ (w1 := ?_) (v := ?_) (by rfl) rfl ?_ ?_
                    rotate_left 2
                    · go_simp
                      constructor
                      · rfl
                      · rfl
                    refine hK.out _ _ ⟨(blk_cell (blk_alloc BK399.out _) 0).trans rfl, (blk_cell (blk_alloc BK399.out _) 1).trans rfl, (blk_cell (blk_alloc BK399.out _) 2).trans rfl, (blk_cell (blk_alloc BK399.out _) 3).trans rfl, (blk_cell (blk_alloc BK399.out _) 4).trans rfl, (blk_cell (blk_alloc BK399.out _) 5).trans rfl, (blk_cell (blk_alloc BK382.out _) 0).trans rfl, (blk_cell (blk_alloc BK382.out _) 1).trans rfl, (blk_cell (blk_alloc BK382.out _) 2).trans rfl, (blk_cell (blk_alloc BK382.out _) 3).trans rfl, (blk_cell (blk_alloc BK382.out _) 4).trans rfl, (blk_cell (blk_alloc BK382.out _) 5).trans rfl, (World.cell?_alloc_lt _ _ _ (World.block_lt_of_cell? _ _ (hHeld.2.2.2.2.2.2.2.2.2.2.2.2.1))).trans (hHeld.2.2.2.2.2.2.2.2.2.2.2.2.1), (World.cell?_alloc_lt _ _ _ (World.block_lt_of_cell? _ _ (hHeld.2.2.2.2.2.2.2.2.2.2.2.2.2))).trans (hHeld.2.2.2.2.2.2.2.2.2.2.2.2.2)⟩ (fun hHeld => ?_)
                    clear hK K
                    refine norm_ (a' := ?_) ?_ ?_
                    rotate_left
                    · show Act.put _ (some 55) _ = _
                      simp only [Act.put, sT, sZ, sS, i64_w, i32_w]
                      rfl
                    refine last_ (i := 13) (N := some 56) (tf 14 2) rfl rfl (one_of HT_.out (by kernel_rfl)) (by decide) (fun K hK => ?_)
                    refine Kd.N_append_step k64 (w0 := w) w.heap.size (by rfl) (.tmp 44) (.tmp 55) 44 64 (.agg #[(.bool false), (.slice none 0 0)]) 32 rfl Try.underlying44 info64 rfl (by decide) (by omega) (.slice (some ad404) t394.length co33) t394 (⟨(rd_T64 t394 (ji52)).f0, (rd_T64 t394 (ji52)).f1⟩ : S64) [.bool ((rd_T64 t394 (ji52)).f0), .slice A404_1 ((rd_T64 t394 (ji52)).f1).length c404_1] (fun k_ => some k_ ≠ (.slice Ao31 t388.length co31 : Value).ownBlock ∧ some k_ ≠ (u400002 : Value).ownBlock ∧ k_ ≠ gb382 ∧ k_ ≠ gb383 ∧ k_ ≠ gb399) (fun k_ => ((fun k_ => some k_ ≠ (.slice Ao31 t388.length co31 : Value).ownBlock ∧ some k_ ≠ (u400002 : Value).ownBlock ∧ k_ ≠ gb382 ∧ k_ ≠ gb383 ∧ k_ ≠ gb399)) k_ ∧ some k_ ≠ (.slice (some ad404) t394.length co33 : Value).ownBlock) rfl rfl ?aP (fun _ hk => hk) ?aF ?aO ?aB ?aS ?aL ?_
                    (case aP => exact (k64_mkF _ _ (⟨(rd_T64 t394 (ji52)).f0, (rd_T64 t394 (ji52)).f1⟩ : S64) (Kd.V_reads' (Kd.V_mono (ok' := (fun k_ => ((fun k_ => some k_ ≠ (.slice Ao31 t388.length co31 : Value).ownBlock ∧ some k_ ≠ (u400002 : Value).ownBlock ∧ k_ ≠ gb382 ∧ k_ ≠ gb383 ∧ k_ ≠ gb399)) k_ ∧ some k_ ≠ (.slice (some ad404) t394.length co33 : Value).ownBlock)) (HL404_1.out) (fun k_ hk => ⟨⟨hk.1.1, ⟨hk.1.2.1, ⟨hk.1.2.2.1, ⟨hk.1.2.2.2.1, hk.1.2.2.2.2⟩⟩⟩⟩, hk.2⟩))).2.1 (Kd.V_F (Kd.V_mono (ok' := (fun k_ => ((fun k_ => some k_ ≠ (.slice Ao31 t388.length co31 : Value).ownBlock ∧ some k_ ≠ (u400002 : Value).ownBlock ∧ k_ ≠ gb382 ∧ k_ ≠ gb383 ∧ k_ ≠ gb399)) k_ ∧ some k_ ≠ (.slice (some ad404) t394.length co33 : Value).ownBlock)) (HL404_1.out) (fun k_ hk => ⟨⟨hk.1.1, ⟨hk.1.2.1, ⟨hk.1.2.2.1, ⟨hk.1.2.2.2.1, hk.1.2.2.2.2⟩⟩⟩⟩, hk.2⟩)))))
                    (case aB => exact (by repeat (first | (with_reducible first | exact HB.out | apply blA | apply blN | apply blD | refine bS ?_ GE382.out | refine bS ?_ GE383.out | refine bS ?_ GE399.out) | exact HB.out)))
                    (case aF => exact (fun k_ hk => ⟨Kd.fresh' (Kd.R_lt (uk_ HO_400001.out)) k_ hk, Kd.fresh' (Kd.N_lt (by (with_reducible repeat (first | apply Kd.N_alloc | apply Kd.N_drewN | apply Kd.N_drew)); exact HO_400002.out)) k_ hk, Kd.freshB (g := gb382) (o := .cells #[.int .i64 a0_0, .slice A0_1 l0_1.length c0_1, .slice A0_2 l0_2.length c0_2, .slice A0_3 l0_3.length c0_3, .int .u32 a0_4, .int .u32 a0_5] 46 (0, 0)) (up_ BK382.out) k_ hk, Kd.freshB (g := gb383) (o := .cells #[.int .u32 a1_0, .int .i64 a1_1, .slice A1_2 l1_2.length c1_2, .slice A1_3 l1_3.length c1_3, .int .u32 a1_4, .int .u32 a1_5, .int .i64 a1_6, .int .u32 a1_7] 50 (0, 0)) (up_ BK383.out) k_ hk, Kd.freshB (g := gb399) (o := .cells #[.int .i64 t387, .slice Ao31 t388.length co31, u400002, .slice (some ad404) t394.length co33, .int .u32 t397, .int .u32 t398] 46 (0, 0)) (up_ BK399.out) k_ hk⟩))
                    (case aO => exact (by (with_reducible repeat (first | apply Kd.N_alloc | apply Kd.N_drewN | apply Kd.N_drew)); exact HO_400003.out))
                    (case aS => exact (below_size (by repeat (first | (with_reducible first | exact HB.out | apply blA | apply blN | apply blD | refine bS ?_ GE382.out | refine bS ?_ GE383.out | refine bS ?_ GE399.out) | exact HB.out))))
                    (case aL => have := LMc55.out; omega)
                    intro v406 w57 ho hb hg hat
                    rw [← Ny405.out] at ho
                    have n0_ := aM (Kd.R_over' (uk_ HO_400001.out) (Kd.N_typed (by (with_reducible repeat (first | apply Kd.N_alloc | apply Kd.N_drewN | apply Kd.N_drew)); exact HO_400003.out)) (by decide) hg)
                    have n1_ := aM (Kd.N_afterv (ok := (fun k_ => some k_ ≠ (.slice Ao31 t388.length co31 : Value).ownBlock ∧ k_ ≠ gb382 ∧ k_ ≠ gb383 ∧ k_ ≠ gb399)) (by (with_reducible repeat (first | apply Kd.N_alloc | apply Kd.N_drewN | apply Kd.N_drew)); exact Kd.N_mono HO_400002.out (fun _ hk => ⟨⟨hk.1, ⟨hk.2.2.1, ⟨hk.2.2.2.1, hk.2.2.2.2⟩⟩⟩, hk.2.1⟩)) hg hat)
                    have n2_ := aM (blk_grown (g := gb382) (o := .cells #[.int .i64 a0_0, .slice A0_1 l0_1.length c0_1, .slice A0_2 l0_2.length c0_2, .slice A0_3 l0_3.length c0_3, .int .u32 a0_4, .int .u32 a0_5] 46 (0, 0)) (up_ BK382.out) hg (Kd.N_ne HO_400003.out BK382.out (by decide)))
                    have n3_ := aM (blk_grown (g := gb383) (o := .cells #[.int .u32 a1_0, .int .i64 a1_1, .slice A1_2 l1_2.length c1_2, .slice A1_3 l1_3.length c1_3, .int .u32 a1_4, .int .u32 a1_5, .int .i64 a1_6, .int .u32 a1_7] 50 (0, 0)) (up_ BK383.out) hg (Kd.N_ne HO_400003.out BK383.out (by decide)))
                    have n4_ := aM (blk_grown (g := gb399) (o := .cells #[.int .i64 t387, .slice Ao31 t388.length co31, u400002, .slice (some ad404) t394.length co33, .int .u32 t397, .int .u32 t398] 46 (0, 0)) (up_ BK399.out) hg (Kd.N_ne HO_400003.out BK399.out (by decide)))
                    have n5_ := aM (Kd.V_afterv (ok := (fun k_ => some k_ ≠ (.slice Ao31 t388.length co31 : Value).ownBlock ∧ some k_ ≠ (u400002 : Value).ownBlock ∧ k_ ≠ gb382 ∧ k_ ≠ gb383 ∧ k_ ≠ gb399)) (by (with_reducible repeat (first | apply Kd.V_alloc | apply Kd.V_drewN | apply Kd.V_drew)); exact HL404_1.out) hg hat)
                    have n6_ := aM (hb)
                    have n7_ := aM (ho)
                    clear HO_400001
                    clear HO_400002
                    clear BK382
                    clear BK383
                    clear BK399
                    clear HL404_1
                    clear HB
                    clear HO_400003
                    have HO_400001 := n0_
                    have HO_400002 := n1_
                    have BK382 := n2_
                    have BK383 := n3_
                    have BK399 := n4_
                    have HL404_1 := n5_
                    have HB := n6_
                    have HO407 := n7_
                    clear n0_ n1_ n2_ n3_ n4_ n5_ n6_ n7_
                    clear ho hb hg hat
                    obtain ⟨Ao58, co58, eo58⟩ := Kd.N_slice HO407.out
                    (first | subst eo58 | (injection eo58 with f1_ f2_ f3_; have f4_ := f1_.symm; have f5_ := f3_.symm; clear f1_ f2_ f3_; subst f4_; subst f5_))
                    refine hK.out _ _ ?_
                    clear hK K
                    refine norm_ (a' := ?_) ?_ ?_
                    rotate_left
                    · show Act.put _ (some 56) _ = _
                      simp only [Act.put, sT, sZ, sS, i64_w, i32_w]
                      rfl
                    refine pure_ (i := 14) (N := some 57) (v := ?_) (a' := ?_) (tf 15 1) rfl rfl (any_of HT_.out (by kernel_rfl)) (fun _ _ _ h => h) (Or.inl ⟨by rfl, ?_⟩) ?_ ?_
                    rotate_left
                    · intro w'
                      go_simp
                      with_reducible rfl
                    rotate_left
                    · simp only [Act.put, sT, sZ, sS, i64_w, i32_w]
                      rfl
                    refine last_ (i := 15) (N := none) (tf 16 0) rfl rfl (one_of HT_.out (by kernel_rfl)) (by decide) (fun K hK => ?_)
                    have hs59 : w57.cell? ⟨gb399, 3, none⟩ = some (.slice (some ad404) t394.length co33) := (blk_cell BK399.out 3).trans rfl
                    have hfs59 := bF BK399.out 3
                    have hns59_0 := NB382_399.out
                    have hns59_1 := NB383_399.out
                    have hms59_0 := NB399_382.out
                    have hms59_1 := NB399_383.out
                    refine skip_ (w1 := ?_) (by rfl) rfl ?_ ?_
                    rotate_left
                    · go_simp
                      rfl
                    refine hK.out _ _ ?_
                    clear hK K
                    refine done_ (done_of HT_.out (by kernel_rfl)) ?_
                    try go_wp2
                    go_meet
                    case rel => exact ⟨_, (y405), (.slice Ao58 y405.length co58), H', ⟨by have := HJ5.out; have := HJ22.out; first | omega | exact Nat.le_refl _⟩, ⟨by (with_reducible repeat (first | apply kA | apply kN | apply kD)); exact Kd.R_mono (Kd.R_far (p := ⟨gb399, 3, none⟩) (Kd.R_types HO_400001.out BK399.out (by decide)) (fun _ hk => hk.2) (.slice Ao58 y405.length co58)) (fun _ hk => trivial)⟩, ⟨by (with_reducible repeat (first | apply Kd.N_alloc | apply Kd.N_drewN | apply Kd.N_drew)); exact Kd.N_mono (Kd.N_far (p := ⟨gb399, 3, none⟩) (Kd.N_mono HO_400002.out (fun k_ hk => (⟨hk, hk.1.2.2.2⟩ : _ ∧ k_ ≠ gb399))) (fun _ hk => hk.2) (.slice Ao58 y405.length co58)) (fun _ hk => ⟨hk.1.1.1, ⟨hk.1.2, ⟨hk.1.1.2.1, ⟨hk.1.1.2.2.1, hk.1.1.2.2.2⟩⟩⟩⟩)⟩, ⟨by (with_reducible repeat (first | apply Kd.N_alloc | apply Kd.N_drewN | apply Kd.N_drew)); exact Kd.N_mono (Kd.N_far (p := ⟨gb399, 3, none⟩) (Kd.N_mono HO407.out (fun k_ hk => (⟨hk, hk.2.2.2.2⟩ : _ ∧ k_ ≠ gb399))) (fun _ hk => hk.2) (.slice Ao58 y405.length co58)) (fun _ hk => ⟨hk.1.1, ⟨hk.1.2.1, ⟨hk.1.2.2.1, ⟨hk.1.2.2.2.1, hk.1.2.2.2.2⟩⟩⟩⟩)⟩, ⟨by (with_reducible repeat (first | apply bkN | apply bkD | apply bkA)); refine blk_far ?_ NB382_399.out _; (with_reducible repeat (first | apply bkN | apply bkD | apply bkA)); exact BK382.out⟩, ⟨by (with_reducible repeat (first | apply bkN | apply bkD | apply bkA)); refine blk_far ?_ NB383_399.out _; (with_reducible repeat (first | apply bkN | apply bkD | apply bkA)); exact BK383.out⟩, ⟨by (with_reducible repeat (first | apply bkN | apply bkD | apply bkA)); refine blk_put (cs := #[.int .i64 t387, .slice Ao31 t388.length co31, u400002, .slice (some ad404) t394.length co33, .int .u32 t397, .int .u32 t398]) ?_ 3 _ rfl; (with_reducible repeat (first | apply bkN | apply bkD | apply bkA)); exact BK399.out⟩, ⟨by repeat (first | (with_reducible first | exact HB.out | apply blA | apply blN | apply blD | refine bS ?_ GE382.out | refine bS ?_ GE383.out | refine bS ?_ GE399.out) | exact HB.out)⟩⟩
                  · rw [if_neg c55] at H
                    exact absurd H (by simp)
                · rw [if_neg c54] at H
                  exact absurd H (by simp)
              · rw [if_neg c53] at H
                exact absurd H (by simp)
          · rw [if_neg c50] at H
            have c50b0 : decide (0 < (l0_3.length : Int)) = false := decide_eq_false c50
            have c50b1 : decide (0 < l0_3.length) = false := decide_eq_false (by omega)
            clear c50
            (first | rw [c50b0] | (simp only [i64_w, i32_w]; rw [c50b0]) | rw [c50b1] | skip)
            have H' := aM H
            clear H
            go_wp2
            go_meet
            case rel => exact ⟨_, (t394), (.slice Ao33 t394.length co33), H', ⟨by have := HJ5.out; have := HJ22.out; first | omega | exact Nat.le_refl _⟩, ⟨by (with_reducible repeat (first | apply kA | apply kN | apply kD)); exact HO_400001.out⟩, ⟨by (with_reducible repeat (first | apply Kd.N_alloc | apply Kd.N_drewN | apply Kd.N_drew)); exact HO_400002.out⟩, ⟨by (with_reducible repeat (first | apply Kd.N_alloc | apply Kd.N_drewN | apply Kd.N_drew)); exact HO_400003.out⟩, ⟨by (with_reducible repeat (first | apply bkN | apply bkD | apply bkA)); exact BK382.out⟩, ⟨by (with_reducible repeat (first | apply bkN | apply bkD | apply bkA)); exact BK383.out⟩, ⟨by (with_reducible repeat (first | apply bkN | apply bkD | apply bkA)); exact BK399.out⟩, ⟨by repeat (first | (with_reducible first | exact HB.out | apply blA | apply blN | apply blD | refine bS ?_ GE382.out | refine bS ?_ GE383.out | refine bS ?_ GE399.out) | exact HB.out)⟩⟩
         case rest =>
          clear HC46
          obtain ⟨kq, x400003_45, u400003, HA, HJ45, HO_400001, HO_400002, HO_400003, BK382, BK383, BK399, HB⟩ := hcut
          cases kq with
          | zero => exact absurd HA.out (by simp [dragomanlaw11_CondTwice.j2])
          | succ kj45 =>
           have H := HA.out
           clear HA
           simp only [dragomanlaw11_CondTwice.j2] at H
           have H' := aM H
           clear H
           have hnb60 := NB383_382.out
           have hnc60 := NB382_383.out
           have hnb61 := NB383_399.out
           have hnc61 := NB399_383.out
           have hcz62_0 : wc.cell? ⟨gb383, 0, none⟩ = some (.int .u32 a1_0) := (blk_cell BK383.out 0).trans rfl
           have hcz62_1 : wc.cell? ⟨gb383, 1, none⟩ = some (.int .i64 a1_1) := (blk_cell BK383.out 1).trans rfl
           have hcz62_2 : wc.cell? ⟨gb383, 2, none⟩ = some (.slice A1_2 l1_2.length c1_2) := (blk_cell BK383.out 2).trans rfl
           have hcz62_3 : wc.cell? ⟨gb383, 3, none⟩ = some (.slice A1_3 l1_3.length c1_3) := (blk_cell BK383.out 3).trans rfl
           have hcz62_4 : wc.cell? ⟨gb383, 4, none⟩ = some (.int .u32 a1_4) := (blk_cell BK383.out 4).trans rfl
           have hcz62_5 : wc.cell? ⟨gb383, 5, none⟩ = some (.int .u32 a1_5) := (blk_cell BK383.out 5).trans rfl
           have hcz62_6 : wc.cell? ⟨gb383, 6, none⟩ = some (.int .i64 a1_6) := (blk_cell BK383.out 6).trans rfl
           have hcz62_7 : wc.cell? ⟨gb383, 7, none⟩ = some (.int .u32 a1_7) := (blk_cell BK383.out 7).trans rfl
           have hfz62_0 := bF BK383.out 0
           have hfz62_1 := bF BK383.out 1
           have hfz62_2 := bF BK383.out 2
           have hfz62_3 := bF BK383.out 3
           have hfz62_4 := bF BK383.out 4
           have hfz62_5 := bF BK383.out 5
           have hfz62_6 := bF BK383.out 6
           have hfz62_7 := bF BK383.out 7
           go_wp2
           go_loopg [8, 9] kj45 (fun kq v8 v9 w' => ∃ (x8_4 : List Int) (x9_4 : Int), v9 = .int .i64 x9_4 ∧ Aside0 (dragomanlaw11_CondTwice.l0 kq x8_4 x9_4 a0_0 l0_1 l0_2 l0_3 a0_4 a0_5 a1_0 a1_1 l1_2 l1_3 a1_4 a1_5 a1_6 a1_7 t387 t388 x400002_22 x400003_45 t397 t398 = some r) ∧ Aside0 (kq ≤ kj45) ∧ Aside0 (Kd.R (Kd.int .u32) 36 w' w.heap.size (fun _ => True) v8 x8_4) ∧ Aside0 (Kd.R k83 83 w' w.heap.size (fun _ => True) (.slice Ao31 t388.length co31) t388) ∧ Aside0 (Kd.N k61 61 w' w.heap.size (fun k_ => some k_ ≠ (v8 : Value).ownBlock ∧ some k_ ≠ ((.slice Ao31 t388.length co31) : Value).ownBlock ∧ some k_ ≠ (u400003 : Value).ownBlock ∧ k_ ≠ gb382 ∧ k_ ≠ gb383 ∧ k_ ≠ gb399) u400002 x400002_22) ∧ Aside0 (Kd.N k64 64 w' w.heap.size (fun k_ => some k_ ≠ (v8 : Value).ownBlock ∧ some k_ ≠ ((.slice Ao31 t388.length co31) : Value).ownBlock ∧ some k_ ≠ (u400002 : Value).ownBlock ∧ k_ ≠ gb382 ∧ k_ ≠ gb383 ∧ k_ ≠ gb399) u400003 x400003_45) ∧ Aside0 (w'.heap[gb382]? = some (.cells #[.int .i64 a0_0, (.slice A0_1 l0_1.length c0_1), (.slice A0_2 l0_2.length c0_2), (.slice A0_3 l0_3.length c0_3), .int .u32 a0_4, .int .u32 a0_5] 46 (0, 0))) ∧ Aside0 (w'.heap[gb383]? = some (.cells #[.int .u32 a1_0, .int .i64 a1_1, (.slice A1_2 l1_2.length c1_2), (.slice A1_3 l1_3.length c1_3), .int .u32 a1_4, .int .u32 a1_5, .int .i64 a1_6, .int .u32 a1_7] 50 (0, 0))) ∧ Aside0 (w'.heap[gb399]? = some (.cells #[.int .i64 t387, (.slice Ao31 t388.length co31), u400002, u400003, .int .u32 t397, .int .u32 t398] 46 (0, 0))) ∧ Aside0 (Below w.heap.size w w'))
           case atStart => exact ⟨(([] : List Int)), (wrap64 ((l1_3.length : Int) - 1)), (by first | rfl | (simp; done) | (simp [*]; done)), H', ⟨Nat.le_refl _⟩, ⟨by first | exact Kd.R_nil _ _ _ _ _ | exact Kd.N_nil _ _ _ _ _ | exact Kd.V_nil _ _ _ _ _ | exact Kd.Q_nil _ _ _ _ _ | exact Kd.S_nil _ _ _ _ _⟩, ⟨by (with_reducible repeat (first | apply kA | apply kN | apply kD)); exact HO_400001.out⟩, ⟨by (with_reducible repeat (first | apply Kd.N_alloc | apply Kd.N_drewN | apply Kd.N_drew)); exact Kd.N_mono HO_400002.out (fun _ hk => ⟨(by simp [Value.ownBlock]), ⟨hk.1, ⟨hk.2.1, ⟨hk.2.2.1, ⟨hk.2.2.2.1, hk.2.2.2.2⟩⟩⟩⟩⟩)⟩, ⟨by (with_reducible repeat (first | apply Kd.N_alloc | apply Kd.N_drewN | apply Kd.N_drew)); exact Kd.N_mono HO_400003.out (fun _ hk => ⟨(by simp [Value.ownBlock]), ⟨hk.1, ⟨hk.2.1, ⟨hk.2.2.1, ⟨hk.2.2.2.1, hk.2.2.2.2⟩⟩⟩⟩⟩)⟩, ⟨by (with_reducible repeat (first | apply bkN | apply bkD | apply bkA)); exact BK382.out⟩, ⟨by (with_reducible repeat (first | apply bkN | apply bkD | apply bkA)); exact BK383.out⟩, ⟨by (with_reducible repeat (first | apply bkN | apply bkD | apply bkA)); exact BK399.out⟩, ⟨by repeat (first | (with_reducible first | exact HB.out | apply blA | apply blN | apply blD | refine bS ?_ GE382.out | refine bS ?_ GE383.out | refine bS ?_ GE399.out) | exact HB.out)⟩⟩
           case round =>
            clear H'
            obtain ⟨x8_4, x9_4, rfl, HA, HK4, HO_8, HO_400001, HO_400002, HO_400003, BK382, BK383, BK399, HB⟩ := hrel
            cases gk with
            | zero => exact absurd HA.out (by simp [dragomanlaw11_CondTwice.l0])
            | succ k4 =>
             have H := HA.out
             clear HA
             simp only [dragomanlaw11_CondTwice.l0] at H
             by_cases c63 : x9_4 ≥ 0
             · rw [if_pos c63] at H
               have c63b0 : decide (0 ≤ x9_4) = true := decide_eq_true c63
               clear c63
               by_cases c64 : 0 ≤ x9_4
               · rw [if_pos c64] at H
                 have c64b0 : decide (0 ≤ x9_4) = true := decide_eq_true c64
                 clear c64
                 by_cases c65 : x9_4 < (l1_3.length : Int)
                 · rw [if_pos c65] at H
                   have c65b0 : decide (x9_4 < (l1_3.length : Int)) = true := decide_eq_true c65
                   clear c65
                   obtain ⟨y410, hy410⟩ : ∃ y_ : List Int, y_ = (([rd l1_3 x9_4, rd l1_3 x9_4] : List Int)) := ⟨_, rfl⟩
                   replace H : (if x8_4.length + y410.length < 35184372088832 then (dragomanlaw11_CondTwice.l0 k4 (x8_4 ++ y410) (wrap64 (x9_4 - 1)) a0_0 l0_1 l0_2 l0_3 a0_4 a0_5 a1_0 a1_1 l1_2 l1_3 a1_4 a1_5 a1_6 a1_7 t387 t388 x400002_22 x400003_45 t397 t398) else (none)) = some r := by first | (rw [hy410]; with_reducible exact H) | (have H2_ := (Option.bind_some _ _).symm.trans H; rw [hy410]; with_reducible exact H2_) | (have H2_ := (Option.bind_some _ _).symm.trans H; with_reducible exact H2_) | with_reducible exact H | (rw [hy410]; exact H) | exact H
                   have Ny410 := aM hy410
                   clear hy410
                   by_cases c66 : x8_4.length + y410.length < 35184372088832
                   · rw [if_pos c66] at H
                     have LMc66 := aM c66
                     clear c66
                     obtain ⟨y413, hy413⟩ : ∃ y_ : List Int, y_ = (x8_4 ++ y410) := ⟨_, rfl⟩
                     replace H : (dragomanlaw11_CondTwice.l0 k4 y413 (wrap64 (x9_4 - 1)) a0_0 l0_1 l0_2 l0_3 a0_4 a0_5 a1_0 a1_1 l1_2 l1_3 a1_4 a1_5 a1_6 a1_7 t387 t388 x400002_22 x400003_45 t397 t398) = some r := by first | (rw [hy413]; with_reducible exact H) | (have H2_ := (Option.bind_some _ _).symm.trans H; rw [hy413]; with_reducible exact H2_) | (have H2_ := (Option.bind_some _ _).symm.trans H; with_reducible exact H2_) | with_reducible exact H | (rw [hy413]; exact H) | exact H
                     have Ny413 := aM hy413
                     clear hy413
                     have H' := aM H
                     clear H
                     try go_wp2
                     have n0_ := aM (Kd.R_drew HO_8.out)
                     have n1_ := aM (Kd.R_drew HO_400001.out)
                     have n2_ := aM (Kd.N_drew HO_400002.out)
                     have n3_ := aM (Kd.N_drew HO_400003.out)
                     have n4_ := aM (blk_drew BK382.out)
                     have n5_ := aM (blk_drew BK383.out)
                     have n6_ := aM (blk_drew BK399.out)
                     have n7_ := aM (below_drew1 HB.out)
                     clear HO_8
                     clear HO_400001
                     clear HO_400002
                     clear HO_400003
                     clear BK382
                     clear BK383
                     clear BK399
                     clear HB
                     have HO_8 := n0_
                     have HO_400001 := n1_
                     have HO_400002 := n2_
                     have HO_400003 := n3_
                     have BK382 := n4_
                     have BK383 := n5_
                     have BK399 := n6_
                     have HB := n7_
                     clear n0_ n1_ n2_ n3_ n4_ n5_ n6_ n7_
                     have p408 : 0 ≤ (x9_4 : Int) := of_decide_eq_true (by first | (with_reducible assumption) | assumption)
                     have q408 : x9_4 < (l1_3.length : Int) := of_decide_eq_true (by first | (with_reducible assumption) | assumption)
                     obtain ⟨ad408, e408, hx408_0⟩ := Kd.at_int HR1_3.out x9_4 p408 q408
                     have hw408_0 := hx408_0
                     cases e408
                     replace hx408_0 := (HB.out.cell (World.block_lt_of_cell? w _ hx408_0)).trans hx408_0
                     replace p408 := eq_true p408
                     replace q408 := eq_true q408
                     have p409 : 0 ≤ (x9_4 : Int) := of_decide_eq_true (by first | (with_reducible assumption) | assumption)
                     have q409 : x9_4 < (l1_3.length : Int) := of_decide_eq_true (by first | (with_reducible assumption) | assumption)
                     obtain ⟨ad409, e409, hx409_0⟩ := Kd.at_int HR1_3.out x9_4 p409 q409
                     have hw409_0 := hx409_0
                     obtain rfl : ad408 = ad409 := (by injection e409)
                     replace hx409_0 := (HB.out.cell (World.block_lt_of_cell? w _ hx409_0)).trans hx409_0
                     replace p409 := eq_true p409
                     replace q409 := eq_true q409
                     refine start_ (n := 14) (S := fun w' => w'.cell? ⟨gb383, 0, none⟩ = some (.int .u32 a1_0) ∧ w'.cell? ⟨gb383, 1, none⟩ = some (.int .i64 a1_1) ∧ w'.cell? ⟨gb383, 2, none⟩ = some (.slice A1_2 l1_2.length c1_2) ∧ w'.cell? ⟨gb383, 3, none⟩ = some (.slice (some ad408) l1_3.length c1_3) ∧ w'.cell? ⟨gb383, 4, none⟩ = some (.int .u32 a1_4) ∧ w'.cell? ⟨gb383, 5, none⟩ = some (.int .u32 a1_5) ∧ w'.cell? ⟨gb383, 6, none⟩ = some (.int .i64 a1_6) ∧ w'.cell? ⟨gb383, 7, none⟩ = some (.int .u32 a1_7) ∧ w'.cell? (ad408.add (x9_4).toNat) = some (.int .u32 (rd l1_3 x9_4)) ∧ w'.cell? (ad408.add (x9_4).toNat) = some (.int .u32 (rd l1_3 x9_4))) (ds := []) (tf 0 14) (by kernel_rfl) rfl rfl ⟨(blk_cell BK383.out 0).trans rfl, (blk_cell BK383.out 1).trans rfl, (blk_cell BK383.out 2).trans rfl, (blk_cell BK383.out 3).trans rfl, (blk_cell BK383.out 4).trans rfl, (blk_cell BK383.out 5).trans rfl, (blk_cell BK383.out 6).trans rfl, (blk_cell BK383.out 7).trans rfl, ((HB.out.cell (World.block_lt_of_cell? w _ hw408_0)).trans hw408_0), ((HB.out.cell (World.block_lt_of_cell? w _ hw409_0)).trans hw409_0)⟩ (fun hHeld => ?_); refine with_tabW dragomanlaw11_CondTwice.tab14 dragomanlaw11_CondTwice.bits14 (fun HT_ HW_ => ?_)
                     generalize wr.drew = w67 at HO_8 HO_400001 HO_400002 HO_400003 BK382 BK383 BK399 HB hx408_0 hx409_0 hHeld ⊢
                     refine pure_ (i := 0) (N := some 66) (v := ?_) (a' := ?_) (tf 1 13) rfl rfl (any_of HT_.out (by kernel_rfl)) (fun _ _ _ h => h) (Or.inl ⟨by rfl, ?_⟩) ?_ ?_
                     rotate_left
                     · intro w'
                       go_simp
                       with_reducible rfl
                     rotate_left
                     · simp only [Act.put, sT, sZ, sS, i64_w, i32_w]
                       rfl
                     refine pure_ (i := 1) (N := some 67) (v := ?_) (a' := ?_) (tf 2 12) rfl rfl (any_of HT_.out (by kernel_rfl)) (fun _ _ _ h => h) (Or.inl ⟨by rfl, ?_⟩) ?_ ?_
                     rotate_left
                     · intro w'
                       go_simp
                       with_reducible rfl
                     rotate_left
                     · simp only [Act.put, sT, sZ, sS, i64_w, i32_w]
                       rfl
                     refine pure_ (i := 3) (N := some 69) (v := ?_) (a' := ?_) #[true, true, false, true, false, false, false, false, false, false, false, false, false, false] rfl rfl (any_of HT_.out (by kernel_rfl)) (fun _ _ _ h => h) (Or.inl ⟨by rfl, ?_⟩) ?_ ?_
                     rotate_left
                     · intro w'
                       go_simp
                       with_reducible rfl
                     rotate_left
                     · simp only [Act.put, sT, sZ, sS, i64_w, i32_w]
                       rfl
                     refine pure_ (i := 6) (N := some 72) (v := ?_) (a' := ?_) #[true, true, false, true, false, false, true, false, false, false, false, false, false, false] rfl rfl (any_of HT_.out (by kernel_rfl)) (fun _ _ _ h => h) (Or.inl ⟨by rfl, ?_⟩) ?_ ?_
                     rotate_left
                     · intro w'
                       go_simp
                       with_reducible rfl
                     rotate_left
                     · simp only [Act.put, sT, sZ, sS, i64_w, i32_w]
                       rfl
                     refine pure_ (i := 8) (N := some 74) (v := ?_) (a' := ?_) #[true, true, false, true, false, false, true, false, true, false, false, false, false, false] rfl rfl (any_of HT_.out (by kernel_rfl)) (fun _ _ _ h => h) (Or.inl ⟨by rfl, ?_⟩) ?_ ?_
                     rotate_left
                     · intro w'
                       go_simp
                       with_reducible rfl
                     rotate_left
                     · simp only [Act.put, sT, sZ, sS, i64_w, i32_w]
                       rfl
                     refine take_ (i := 2) (N := some 68) (v := ?_) (a' := ?_) #[true, true, true, true, false, false, true, false, true, false, false, false, false, false] rfl rfl (take_ofW HT_.out HW_.out (by kernel_rfl)) (fun _ _ _ h => h) (Or.inl ⟨by rfl, ?_⟩) hHeld ?_ ?_
                     rotate_left
                     · rintro w' ⟨s0, s1, s2, s3, s4, s5, s6, s7, s8, s9⟩
                       go_simp
                       with_reducible rfl
                     rotate_left
                     · simp only [Act.put, sT, sZ, sS, i64_w, i32_w]
                       rfl
                     refine pure_ (i := 4) (N := some 70) (v := ?_) (a' := ?_) #[true, true, true, true, true, false, true, false, true, false, false, false, false, false] rfl rfl (any_of HT_.out (by kernel_rfl)) (fun _ _ _ h => h) (Or.inl ⟨by rfl, ?_⟩) ?_ ?_
                     rotate_left
                     · intro w'
                       go_simp
                       with_reducible rfl
                     rotate_left
                     · simp only [Act.put, sT, sZ, sS, i64_w, i32_w]
                       rfl
                     refine take_ (i := 5) (N := some 71) (v := ?_) (a' := ?_) #[true, true, true, true, true, true, true, false, true, false, false, false, false, false] rfl rfl (take_ofW HT_.out HW_.out (by kernel_rfl)) (fun _ _ _ h => h) (Or.inl ⟨by rfl, ?_⟩) hHeld ?_ ?_
                     rotate_left
                     · rintro w' ⟨s0, s1, s2, s3, s4, s5, s6, s7, s8, s9⟩
                       go_simp
                       with_reducible rfl
                     rotate_left
                     · simp only [Act.put, sT, sZ, sS, i64_w, i32_w]
                       rfl
                     refine take_ (i := 7) (N := some 73) (v := ?_) (a' := ?_) (tf 9 5) rfl rfl (take_ofW HT_.out HW_.out (by kernel_rfl)) (fun _ _ _ h => h) (Or.inl ⟨by rfl, ?_⟩) hHeld ?_ ?_
                     rotate_left
                     · rintro w' ⟨s0, s1, s2, s3, s4, s5, s6, s7, s8, s9⟩
                       go_simp
                       with_reducible rfl
                     rotate_left
                     · simp only [Act.put, sT, sZ, sS, i64_w, i32_w]
                       rfl
                     refine pure_ (i := 9) (N := some 75) (v := ?_) (a' := ?_) (tf 10 4) rfl rfl (any_of HT_.out (by kernel_rfl)) (fun _ _ _ h => h) (Or.inl ⟨by rfl, ?_⟩) ?_ ?_
                     rotate_left
                     · intro w'
                       go_simp
                       with_reducible rfl
                     rotate_left
                     · simp only [Act.put, sT, sZ, sS, i64_w, i32_w]
                       rfl
                     refine take_ (i := 10) (N := some 76) (v := ?_) (a' := ?_) (tf 11 3) rfl rfl (take_ofW HT_.out HW_.out (by kernel_rfl)) (fun _ _ _ h => h) (Or.inl ⟨by rfl, ?_⟩) hHeld ?_ ?_
                     rotate_left
                     · rintro w' ⟨s0, s1, s2, s3, s4, s5, s6, s7, s8, s9⟩
                       go_simp
                       with_reducible rfl
                     rotate_left
                     · simp only [Act.put, sT, sZ, sS, i64_w, i32_w]
                       rfl
                     refine one_ (i := 11) (N := some 77) (tf 12 2) rfl rfl (one_of HT_.out (by kernel_rfl)) (by decide) (fun K hK => ?_)
                     refine Kd.R_lit_step (Kd.int .u32) _ 36 ?hg (N := 77) ?hd (xs := ([rd l1_3 x9_4, rd l1_3 x9_4] : List Int)) (inner := [.int .u32 (rd l1_3 x9_4), .int .u32 (rd l1_3 x9_4)]) (ok := fun _ => True) (okp := fun _ => True) ?hr ?hp (fun _ hk => hk) trivial (Below.refl _ _) (Nat.le_refl _) (by simp) ?_; (case hd => rfl); (case hg => rfl); (case hr => first | (go_simp; done) | (go_simp; rfl)); (case hp => exact (Reps.one (show Kd.M (Kd.int .u32) _ _ _ (rd l1_3 x9_4) [.int .u32 (rd l1_3 x9_4)] from rfl) (Reps.one (show Kd.M (Kd.int .u32) _ _ _ (rd l1_3 x9_4) [.int .u32 (rd l1_3 x9_4)] from rfl) (Reps.none _ _))))
                     intro v411 w68 ho69 hb hg_ hnew_
                     clear hg_ hnew_
                     (first | rw [← Ny410.out] at ho69 | (simp only [Int.reduceToNat] at ho69; rw [← Ny410.out] at ho69))
                     have n0_ := aM (Kd.R_elder' (uk_ HO_8.out) (Kd.R_base ho69) hb)
                     have n1_ := aM (Kd.R_below (uk_ HO_400001.out) hb)
                     have n2_ := aM (Kd.N_elder' (by (with_reducible repeat (first | apply Kd.N_alloc | apply Kd.N_drewN | apply Kd.N_drew)); exact HO_400002.out) (Kd.R_base ho69) hb)
                     have n3_ := aM (Kd.N_elder' (by (with_reducible repeat (first | apply Kd.N_alloc | apply Kd.N_drewN | apply Kd.N_drew)); exact HO_400003.out) (Kd.R_base ho69) hb)
                     have n4_ := aM (Kd.R_lower (Kd.R_new' ho69 (Kd.R_lt (uk_ HO_8.out))) (below_size (by repeat (first | (with_reducible first | exact HB.out | apply blA | apply blN | apply blD | refine bS ?_ GE382.out | refine bS ?_ GE383.out | refine bS ?_ GE399.out) | exact HB.out))))
                     have n5_ := aM (blk_below (g := gb382) (o := .cells #[.int .i64 a0_0, .slice A0_1 l0_1.length c0_1, .slice A0_2 l0_2.length c0_2, .slice A0_3 l0_3.length c0_3, .int .u32 a0_4, .int .u32 a0_5] 46 (0, 0)) (up_ BK382.out) hb)
                     have n6_ := aM (blk_below (g := gb383) (o := .cells #[.int .u32 a1_0, .int .i64 a1_1, .slice A1_2 l1_2.length c1_2, .slice (some ad408) l1_3.length c1_3, .int .u32 a1_4, .int .u32 a1_5, .int .i64 a1_6, .int .u32 a1_7] 50 (0, 0)) (up_ BK383.out) hb)
                     have n7_ := aM (blk_below (g := gb399) (o := .cells #[.int .i64 t387, .slice Ao31 t388.length co31, u400002, u400003, .int .u32 t397, .int .u32 t398] 46 (0, 0)) (up_ BK399.out) hb)
                     have n8_ := aM (below_step (by repeat (first | (with_reducible first | exact HB.out | apply blA | apply blN | apply blD | refine bS ?_ GE382.out | refine bS ?_ GE383.out | refine bS ?_ GE399.out) | exact HB.out)) hb)
                     clear HO_8
                     clear HO_400001
                     clear HO_400002
                     clear HO_400003
                     clear BK382
                     clear BK383
                     clear BK399
                     clear HB
                     have HO_8 := n0_
                     have HO_400001 := n1_
                     have HO_400002 := n2_
                     have HO_400003 := n3_
                     have HO412 := n4_
                     have BK382 := n5_
                     have BK383 := n6_
                     have BK399 := n7_
                     have HB := n8_
                     clear n0_ n1_ n2_ n3_ n4_ n5_ n6_ n7_ n8_
                     clear hb ho69
                     obtain ⟨Ao71, co71, eo71⟩ := Kd.R_slice HO412.out
                     (first | subst eo71 | (injection eo71 with f1_ f2_ f3_; have f4_ := f1_.symm; have f5_ := f3_.symm; clear f1_ f2_ f3_; subst f4_; subst f5_))
                     refine hK.out _ _ ⟨(blk_cell BK383.out 0).trans rfl, (blk_cell BK383.out 1).trans rfl, (blk_cell BK383.out 2).trans rfl, (blk_cell BK383.out 3).trans rfl, (blk_cell BK383.out 4).trans rfl, (blk_cell BK383.out 5).trans rfl, (blk_cell BK383.out 6).trans rfl, (blk_cell BK383.out 7).trans rfl, ((HB.out.cell (World.block_lt_of_cell? w _ hw408_0)).trans hw408_0), ((HB.out.cell (World.block_lt_of_cell? w _ hw409_0)).trans hw409_0)⟩ (fun hHeld => ?_)
                     clear hK K
                     refine norm_ (a' := ?_) ?_ ?_
                     rotate_left
                     · show Act.put _ (some 77) _ = _
                       simp only [Act.put, sT, sZ, sS, i64_w, i32_w]
                       rfl
                     refine one_ (i := 12) (N := some 78) (tf 13 1) rfl rfl (one_of HT_.out (by kernel_rfl)) (by decide) (fun K hK => ?_)
                     refine Kd.R_append_rows_step (Kd.int .u32) (w0 := w) w.heap.size (by rfl) (.tmp 66) (.tmp 77) 26 36 (.int .u32 0) 4 rfl Try.underlying26 info36 rfl (by decide) (by omega) u8 x8_4 y410 _ _ _ (fun k_ => some k_ ≠ (.slice Ao71 y410.length co71 : Value).ownBlock) (fun _ => False) rfl rfl ?aO ?aR (fun _ _ h => h) (fun _ h => h.elim) ?aF ?aB ?aS ?aL ?_
                     (case aR => repeat (first | exact (Kd.R_reads' HO412.out).2.2 | (with_reducible refine Kd.C_alloc ?_ _) | (with_reducible refine Kd.C_drewN ?_ _) | (with_reducible refine Kd.C_drew ?_)))
                     (case aB => exact (by repeat (first | (with_reducible first | exact HB.out | apply blA | apply blN | apply blD | refine bS ?_ GE382.out | refine bS ?_ GE383.out | refine bS ?_ GE399.out) | exact HB.out)))
                     (case aF => exact (fun k_ hk => Kd.fresh' (Kd.R_lt (uk_ HO412.out)) k_ hk))
                     (case aO => exact (by (with_reducible repeat (first | apply kA | apply kN | apply kD)); exact Kd.R_mono HO_8.out (fun _ hk => hk.2)))
                     (case aS => exact (below_size (by repeat (first | (with_reducible first | exact HB.out | apply blA | apply blN | apply blD | refine bS ?_ GE382.out | refine bS ?_ GE383.out | refine bS ?_ GE399.out) | exact HB.out))))
                     (case aL => have := LMc66.out; omega)
                     intro v414 w70 ho hb hg hat
                     rw [← Ny413.out] at ho
                     have n0_ := aM (Kd.R_over' (uk_ HO_400001.out) (Kd.R_typed (uk_ HO_8.out)) (by decide) hg)
                     have n1_ := aM (Kd.N_afterv (ok := (fun k_ => some k_ ≠ (.slice Ao31 t388.length co31 : Value).ownBlock ∧ some k_ ≠ (u400003 : Value).ownBlock ∧ some k_ ≠ (.slice Ao71 y410.length co71 : Value).ownBlock ∧ k_ ≠ gb382 ∧ k_ ≠ gb383 ∧ k_ ≠ gb399)) (by (with_reducible repeat (first | apply Kd.N_alloc | apply Kd.N_drewN | apply Kd.N_drew)); exact Kd.N_mono HO_400002.out (fun _ hk => ⟨⟨hk.1.2.1, ⟨hk.1.2.2.1, ⟨hk.2, ⟨hk.1.2.2.2.1, ⟨hk.1.2.2.2.2.1, hk.1.2.2.2.2.2⟩⟩⟩⟩⟩, hk.1.1⟩)) hg hat)
                     have n2_ := aM (Kd.N_afterv (ok := (fun k_ => some k_ ≠ (.slice Ao31 t388.length co31 : Value).ownBlock ∧ some k_ ≠ (u400002 : Value).ownBlock ∧ some k_ ≠ (.slice Ao71 y410.length co71 : Value).ownBlock ∧ k_ ≠ gb382 ∧ k_ ≠ gb383 ∧ k_ ≠ gb399)) (by (with_reducible repeat (first | apply Kd.N_alloc | apply Kd.N_drewN | apply Kd.N_drew)); exact Kd.N_mono HO_400003.out (fun _ hk => ⟨⟨hk.1.2.1, ⟨hk.1.2.2.1, ⟨hk.2, ⟨hk.1.2.2.2.1, ⟨hk.1.2.2.2.2.1, hk.1.2.2.2.2.2⟩⟩⟩⟩⟩, hk.1.1⟩)) hg hat)
                     have n3_ := aM (blk_grown (g := gb382) (o := .cells #[.int .i64 a0_0, .slice A0_1 l0_1.length c0_1, .slice A0_2 l0_2.length c0_2, .slice A0_3 l0_3.length c0_3, .int .u32 a0_4, .int .u32 a0_5] 46 (0, 0)) (up_ BK382.out) hg (Kd.R_ne HO_8.out BK382.out (by decide)))
                     have n4_ := aM (blk_grown (g := gb383) (o := .cells #[.int .u32 a1_0, .int .i64 a1_1, .slice A1_2 l1_2.length c1_2, .slice (some ad408) l1_3.length c1_3, .int .u32 a1_4, .int .u32 a1_5, .int .i64 a1_6, .int .u32 a1_7] 50 (0, 0)) (up_ BK383.out) hg (Kd.R_ne HO_8.out BK383.out (by decide)))
                     have n5_ := aM (blk_grown (g := gb399) (o := .cells #[.int .i64 t387, .slice Ao31 t388.length co31, u400002, u400003, .int .u32 t397, .int .u32 t398] 46 (0, 0)) (up_ BK399.out) hg (Kd.R_ne HO_8.out BK399.out (by decide)))
                     have n6_ := aM (Kd.R_after (ok := (fun _ => True)) (uk_ HO412.out) hg hat)
                     have n7_ := aM (hb)
                     have n8_ := aM (ho)
                     clear HO_400001
                     clear HO_400002
                     clear HO_400003
                     clear BK382
                     clear BK383
                     clear BK399
                     clear HO412
                     clear HB
                     clear HO_8
                     have HO_400001 := n0_
                     have HO_400002 := n1_
                     have HO_400003 := n2_
                     have BK382 := n3_
                     have BK383 := n4_
                     have BK399 := n5_
                     have HO412 := n6_
                     have HB := n7_
                     have HO415 := n8_
                     clear n0_ n1_ n2_ n3_ n4_ n5_ n6_ n7_ n8_
                     clear ho hb hg hat
                     refine hK.out _ _ ⟨(blk_cell BK383.out 0).trans rfl, (blk_cell BK383.out 1).trans rfl, (blk_cell BK383.out 2).trans rfl, (blk_cell BK383.out 3).trans rfl, (blk_cell BK383.out 4).trans rfl, (blk_cell BK383.out 5).trans rfl, (blk_cell BK383.out 6).trans rfl, (blk_cell BK383.out 7).trans rfl, ((HB.out.cell (World.block_lt_of_cell? w _ hw408_0)).trans hw408_0), ((HB.out.cell (World.block_lt_of_cell? w _ hw409_0)).trans hw409_0)⟩ (fun hHeld => ?_)
                     clear hK K
                     refine norm_ (a' := ?_) ?_ ?_
                     rotate_left
                     · show Act.put _ (some 78) _ = _
                       simp only [Act.put, sT, sZ, sS, i64_w, i32_w]
                       rfl
                     refine pure_ (i := 13) (N := some 8) (v := ?_) (a' := ?_) (tf 14 0) rfl rfl (any_of HT_.out (by kernel_rfl)) (fun _ _ _ h => h) (Or.inl ⟨by rfl, ?_⟩) ?_ ?_
                     rotate_left
                     · intro w'
                       go_simp
                       with_reducible rfl
                     rotate_left
                     · simp only [Act.put, sT, sZ, sS, i64_w, i32_w]
                       rfl
                     refine done_ (done_of HT_.out (by kernel_rfl)) ?_
                     try go_wp2
                     go_roundg k4
                     case measure => have := HJ5.out; have := HJ22.out; have := HJ45.out; have := HK4.out; omega
                     case rel => exact ⟨(y413), (wrap64 (x9_4 - 1)), (by first | rfl | (simp; done) | (simp [*]; done)), H', ⟨by have := HJ5.out; have := HJ22.out; have := HJ45.out; have := HK4.out; omega⟩, ⟨by (with_reducible repeat (first | apply kA | apply kN | apply kD)); exact Kd.R_mono HO415.out (fun _ hk => trivial)⟩, ⟨by (with_reducible repeat (first | apply kA | apply kN | apply kD)); exact HO_400001.out⟩, ⟨by (with_reducible repeat (first | apply Kd.N_alloc | apply Kd.N_drewN | apply Kd.N_drew)); exact Kd.N_mono HO_400002.out (fun _ hk => ⟨hk.2, ⟨hk.1.1, ⟨hk.1.2.1, ⟨hk.1.2.2.2.1, ⟨hk.1.2.2.2.2.1, hk.1.2.2.2.2.2⟩⟩⟩⟩⟩)⟩, ⟨by (with_reducible repeat (first | apply Kd.N_alloc | apply Kd.N_drewN | apply Kd.N_drew)); exact Kd.N_mono HO_400003.out (fun _ hk => ⟨hk.2, ⟨hk.1.1, ⟨hk.1.2.1, ⟨hk.1.2.2.2.1, ⟨hk.1.2.2.2.2.1, hk.1.2.2.2.2.2⟩⟩⟩⟩⟩)⟩, ⟨by (with_reducible repeat (first | apply bkN | apply bkD | apply bkA)); exact BK382.out⟩, ⟨by (with_reducible repeat (first | apply bkN | apply bkD | apply bkA)); exact BK383.out⟩, ⟨by (with_reducible repeat (first | apply bkN | apply bkD | apply bkA)); exact BK399.out⟩, ⟨by repeat (first | (with_reducible first | exact HB.out | apply blA | apply blN | apply blD | refine bS ?_ GE382.out | refine bS ?_ GE383.out | refine bS ?_ GE399.out) | exact HB.out)⟩⟩
                   · rw [if_neg c66] at H
                     exact absurd H (by simp)
                 · rw [if_neg c65] at H
                   exact absurd H (by simp)
               · rw [if_neg c64] at H
                 exact absurd H (by simp)
             · rw [if_neg c63] at H
               have c63b0 : decide (0 ≤ x9_4) = false := decide_eq_false c63
               clear c63
               replace H := Option.bind_eq_some_iff.mp H
               obtain ⟨t416, A720, H⟩ := H
               replace H : ((cond_TakesPath.f k4 l0_2 l1_2).bind fun t417 => (if (t416 == t417) = true then ((cond_TakesComms.f x400003_45 x8_4).bind fun t418 => ((cond_TakesComms.f l0_3 l1_3).bind fun t419 => (some (t418 == t419)))) else (none))) = some r := H
               have A72 := aM A720
               clear A720
               replace H := Option.bind_eq_some_iff.mp H
               obtain ⟨t417, A730, H⟩ := H
               replace H : (if (t416 == t417) = true then ((cond_TakesComms.f x400003_45 x8_4).bind fun t418 => ((cond_TakesComms.f l0_3 l1_3).bind fun t419 => (some (t418 == t419)))) else (none)) = some r := H
               have A73 := aM A730
               clear A730
               by_cases c74 : (t416 == t417) = true
               · rw [if_pos c74] at H
                 have c74b0 : (t416 == t417) = true := c74
                 (try (have c74b1 : decide (t416 = t417) = true := by simpa using c74))
                 (try (have c74b2 : (t416 == t417) = true := by simpa using c74))
                 clear c74
                 replace H := Option.bind_eq_some_iff.mp H
                 obtain ⟨t418, A750, H⟩ := H
                 replace H : ((cond_TakesComms.f l0_3 l1_3).bind fun t419 => (some (t418 == t419))) = some r := H
                 have A75 := aM A750
                 clear A750
                 replace H := Option.bind_eq_some_iff.mp H
                 obtain ⟨t419, A760, H⟩ := H
                 replace H : (some (t418 == t419)) = some r := H
                 have A76 := aM A760
                 clear A760
                 obtain rfl := Option.some.inj H
                 try go_wp2
                 have n0_ := aM (Kd.R_drew HO_8.out)
                 have n1_ := aM (Kd.R_drew HO_400001.out)
                 have n2_ := aM (Kd.N_drew HO_400002.out)
                 have n3_ := aM (Kd.N_drew HO_400003.out)
                 have n4_ := aM (blk_drew BK382.out)
                 have n5_ := aM (blk_drew BK383.out)
                 have n6_ := aM (blk_drew BK399.out)
                 have n7_ := aM (below_drew1 HB.out)
                 clear HO_8
                 clear HO_400001
                 clear HO_400002
                 clear HO_400003
                 clear BK382
                 clear BK383
                 clear BK399
                 clear HB
                 have HO_8 := n0_
                 have HO_400001 := n1_
                 have HO_400002 := n2_
                 have HO_400003 := n3_
                 have BK382 := n4_
                 have BK383 := n5_
                 have BK399 := n6_
                 have HB := n7_
                 clear n0_ n1_ n2_ n3_ n4_ n5_ n6_ n7_
                 obtain ⟨Ao78, co78, eo78⟩ := Kd.N_slice HO_400002.out
                 (first | subst eo78 | (injection eo78 with f1_ f2_ f3_; have f4_ := f1_.symm; have f5_ := f3_.symm; clear f1_ f2_ f3_; subst f4_; subst f5_))
                 refine start_ (n := 24) (S := fun w' => w'.cell? ⟨gb399, 0, none⟩ = some (.int .i64 t387) ∧ w'.cell? ⟨gb399, 1, none⟩ = some (.slice Ao31 t388.length co31) ∧ w'.cell? ⟨gb399, 2, none⟩ = some (.slice Ao78 x400002_22.length co78) ∧ w'.cell? ⟨gb399, 3, none⟩ = some (u400003) ∧ w'.cell? ⟨gb399, 4, none⟩ = some (.int .u32 t397) ∧ w'.cell? ⟨gb399, 5, none⟩ = some (.int .u32 t398) ∧ w'.cell? ⟨gb383, 0, none⟩ = some (.int .u32 a1_0) ∧ w'.cell? ⟨gb383, 1, none⟩ = some (.int .i64 a1_1) ∧ w'.cell? ⟨gb383, 2, none⟩ = some (.slice A1_2 l1_2.length c1_2) ∧ w'.cell? ⟨gb383, 3, none⟩ = some (.slice A1_3 l1_3.length c1_3) ∧ w'.cell? ⟨gb383, 4, none⟩ = some (.int .u32 a1_4) ∧ w'.cell? ⟨gb383, 5, none⟩ = some (.int .u32 a1_5) ∧ w'.cell? ⟨gb383, 6, none⟩ = some (.int .i64 a1_6) ∧ w'.cell? ⟨gb383, 7, none⟩ = some (.int .u32 a1_7) ∧ w'.cell? ⟨gb382, 0, none⟩ = some (.int .i64 a0_0) ∧ w'.cell? ⟨gb382, 1, none⟩ = some (.slice A0_1 l0_1.length c0_1) ∧ w'.cell? ⟨gb382, 2, none⟩ = some (.slice A0_2 l0_2.length c0_2) ∧ w'.cell? ⟨gb382, 3, none⟩ = some (.slice A0_3 l0_3.length c0_3) ∧ w'.cell? ⟨gb382, 4, none⟩ = some (.int .u32 a0_4) ∧ w'.cell? ⟨gb382, 5, none⟩ = some (.int .u32 a0_5)) (ds := []) (tf 0 24) (by kernel_rfl) rfl rfl ⟨(blk_cell BK399.out 0).trans rfl, (blk_cell BK399.out 1).trans rfl, (blk_cell BK399.out 2).trans rfl, (blk_cell BK399.out 3).trans rfl, (blk_cell BK399.out 4).trans rfl, (blk_cell BK399.out 5).trans rfl, (blk_cell BK383.out 0).trans rfl, (blk_cell BK383.out 1).trans rfl, (blk_cell BK383.out 2).trans rfl, (blk_cell BK383.out 3).trans rfl, (blk_cell BK383.out 4).trans rfl, (blk_cell BK383.out 5).trans rfl, (blk_cell BK383.out 6).trans rfl, (blk_cell BK383.out 7).trans rfl, (blk_cell BK382.out 0).trans rfl, (blk_cell BK382.out 1).trans rfl, (blk_cell BK382.out 2).trans rfl, (blk_cell BK382.out 3).trans rfl, (blk_cell BK382.out 4).trans rfl, (blk_cell BK382.out 5).trans rfl⟩ (fun hHeld => ?_); refine with_tabW dragomanlaw11_CondTwice.tab15 dragomanlaw11_CondTwice.bits15 (fun HT_ HW_ => ?_)
                 generalize wr.drew = w77 at HO_8 HO_400001 HO_400002 HO_400003 BK382 BK383 BK399 HB hHeld ⊢
                 refine pure_ (i := 0) (N := some 79) (v := ?_) (a' := ?_) (tf 1 23) rfl rfl (any_of HT_.out (by kernel_rfl)) (fun _ _ _ h => h) (Or.inl ⟨by rfl, ?_⟩) ?_ ?_
                 rotate_left
                 · intro w'
                   go_simp
                   with_reducible rfl
                 rotate_left
                 · simp only [Act.put, sT, sZ, sS, i64_w, i32_w]
                   rfl
                 refine pure_ (i := 2) (N := some 81) (v := ?_) (a' := ?_) #[true, false, true, false, false, false, false, false, false, false, false, false, false, false, false, false, false, false, false, false, false, false, false, false] rfl rfl (any_of HT_.out (by kernel_rfl)) (fun _ _ _ h => h) (Or.inl ⟨by rfl, ?_⟩) ?_ ?_
                 rotate_left
                 · intro w'
                   go_simp
                   with_reducible rfl
                 rotate_left
                 · simp only [Act.put, sT, sZ, sS, i64_w, i32_w]
                   rfl
                 refine pure_ (i := 5) (N := some 84) (v := ?_) (a' := ?_) #[true, false, true, false, false, true, false, false, false, false, false, false, false, false, false, false, false, false, false, false, false, false, false, false] rfl rfl (any_of HT_.out (by kernel_rfl)) (fun _ _ _ h => h) (Or.inl ⟨by rfl, ?_⟩) ?_ ?_
                 rotate_left
                 · intro w'
                   go_simp
                   with_reducible rfl
                 rotate_left
                 · simp only [Act.put, sT, sZ, sS, i64_w, i32_w]
                   rfl
                 refine pure_ (i := 7) (N := some 86) (v := ?_) (a' := ?_) #[true, false, true, false, false, true, false, true, false, false, false, false, false, false, false, false, false, false, false, false, false, false, false, false] rfl rfl (any_of HT_.out (by kernel_rfl)) (fun _ _ _ h => h) (Or.inl ⟨by rfl, ?_⟩) ?_ ?_
                 rotate_left
                 · intro w'
                   go_simp
                   with_reducible rfl
                 rotate_left
                 · simp only [Act.put, sT, sZ, sS, i64_w, i32_w]
                   rfl
                 refine take_ (i := 1) (N := some 80) (v := ?_) (a' := ?_) #[true, true, true, false, false, true, false, true, false, false, false, false, false, false, false, false, false, false, false, false, false, false, false, false] rfl rfl (take_ofW HT_.out HW_.out (by kernel_rfl)) (fun _ _ _ h => h) (Or.inl ⟨by rfl, ?_⟩) hHeld ?_ ?_
                 rotate_left
                 · rintro w' ⟨s0, s1, s2, s3, s4, s5, s6, s7, s8, s9, s10, s11, s12, s13, s14, s15, s16, s17, s18, s19⟩
                   go_simp
                   with_reducible rfl
                 rotate_left
                 · simp only [Act.put, sT, sZ, sS, i64_w, i32_w]
                   rfl
                 refine take_ (i := 3) (N := some 82) (v := ?_) (a' := ?_) #[true, true, true, true, false, true, false, true, false, false, false, false, false, false, false, false, false, false, false, false, false, false, false, false] rfl rfl (take_ofW HT_.out HW_.out (by kernel_rfl)) (fun _ _ _ h => h) (Or.inl ⟨by rfl, ?_⟩) hHeld ?_ ?_
                 rotate_left
                 · rintro w' ⟨s0, s1, s2, s3, s4, s5, s6, s7, s8, s9, s10, s11, s12, s13, s14, s15, s16, s17, s18, s19⟩
                   go_simp
                   with_reducible rfl
                 rotate_left
                 · simp only [Act.put, sT, sZ, sS, i64_w, i32_w]
                   rfl
                 refine take_ (i := 6) (N := some 85) (v := ?_) (a' := ?_) #[true, true, true, true, false, true, true, true, false, false, false, false, false, false, false, false, false, false, false, false, false, false, false, false] rfl rfl (take_ofW HT_.out HW_.out (by kernel_rfl)) (fun _ _ _ h => h) (Or.inl ⟨by rfl, ?_⟩) hHeld ?_ ?_
                 rotate_left
                 · rintro w' ⟨s0, s1, s2, s3, s4, s5, s6, s7, s8, s9, s10, s11, s12, s13, s14, s15, s16, s17, s18, s19⟩
                   go_simp
                   with_reducible rfl
                 rotate_left
                 · simp only [Act.put, sT, sZ, sS, i64_w, i32_w]
                   rfl
                 refine take_ (i := 8) (N := some 87) (v := ?_) (a' := ?_) #[true, true, true, true, false, true, true, true, true, false, false, false, false, false, false, false, false, false, false, false, false, false, false, false] rfl rfl (take_ofW HT_.out HW_.out (by kernel_rfl)) (fun _ _ _ h => h) (Or.inl ⟨by rfl, ?_⟩) hHeld ?_ ?_
                 rotate_left
                 · rintro w' ⟨s0, s1, s2, s3, s4, s5, s6, s7, s8, s9, s10, s11, s12, s13, s14, s15, s16, s17, s18, s19⟩
                   go_simp
                   with_reducible rfl
                 rotate_left
                 · simp only [Act.put, sT, sZ, sS, i64_w, i32_w]
                   rfl
                 refine one_ (i := 4) (N := some 83) (tf 9 15) rfl rfl (one_of HT_.out (by kernel_rfl)) (by decide) (fun K hK => ?_)
                 refine goes_ Try.func38 (by kernel_rfl) rfl #[.slice Ao78 x400002_22.length co78, .slice A1_2 l1_2.length c1_2] (by rfl) rfl rfl (by (try simp only [List.map_toArray, List.map_cons, List.map_nil]); first | done | rfl | (simp only [List.length_drop, List.length_take]; rfl)) ?_
                 with_reducible refine (cond_TakesPath.calls k4 _ _ x400002_22 _ _ l1_2 t416 _ ?side1 ?side2 ?side3 ?side4 A72.out).mono ?_
                 (case side1 => repeat (first | exact (Kd.N_reads' HO_400002.out).2.2 | (with_reducible refine Kd.C_alloc ?_ _) | (with_reducible refine Kd.C_drewN ?_ _) | (with_reducible refine Kd.C_drew ?_)))
                 (case side2 => exact (Kd.N_reads' HO_400002.out).2.1)
                 (case side3 => repeat (first | exact (Kd.C_below HR1_2.out HB.out) | (with_reducible refine Kd.C_alloc ?_ _) | (with_reducible refine Kd.C_drewN ?_ _) | (with_reducible refine Kd.C_drew ?_)))
                 (case side4 => exact HC1_2.out)
                 rintro e w79 ⟨rfl, hb⟩
                 refine ⟨_, rfl, ?_⟩
                 have n0_ := aM (Kd.R_below (uk_ HO_8.out) hb)
                 have n1_ := aM (Kd.R_below (uk_ HO_400001.out) hb)
                 have n2_ := aM (Kd.N_below (by (with_reducible repeat (first | apply Kd.N_alloc | apply Kd.N_drewN | apply Kd.N_drew)); exact HO_400002.out) hb)
                 have n3_ := aM (Kd.N_below (by (with_reducible repeat (first | apply Kd.N_alloc | apply Kd.N_drewN | apply Kd.N_drew)); exact HO_400003.out) hb)
                 have n4_ := aM (blk_below (g := gb382) (o := .cells #[.int .i64 a0_0, .slice A0_1 l0_1.length c0_1, .slice A0_2 l0_2.length c0_2, .slice A0_3 l0_3.length c0_3, .int .u32 a0_4, .int .u32 a0_5] 46 (0, 0)) (up_ BK382.out) hb)
                 have n5_ := aM (blk_below (g := gb383) (o := .cells #[.int .u32 a1_0, .int .i64 a1_1, .slice A1_2 l1_2.length c1_2, .slice A1_3 l1_3.length c1_3, .int .u32 a1_4, .int .u32 a1_5, .int .i64 a1_6, .int .u32 a1_7] 50 (0, 0)) (up_ BK383.out) hb)
                 have n6_ := aM (blk_below (g := gb399) (o := .cells #[.int .i64 t387, .slice Ao31 t388.length co31, .slice Ao78 x400002_22.length co78, u400003, .int .u32 t397, .int .u32 t398] 46 (0, 0)) (up_ BK399.out) hb)
                 have n7_ := aM (below_step (by repeat (first | (with_reducible first | exact HB.out | apply blA | apply blN | apply blD | refine bS ?_ GE382.out | refine bS ?_ GE383.out | refine bS ?_ GE399.out) | exact HB.out)) hb)
                 clear HO_8
                 clear HO_400001
                 clear HO_400002
                 clear HO_400003
                 clear BK382
                 clear BK383
                 clear BK399
                 clear HB
                 have HO_8 := n0_
                 have HO_400001 := n1_
                 have HO_400002 := n2_
                 have HO_400003 := n3_
                 have BK382 := n4_
                 have BK383 := n5_
                 have BK399 := n6_
                 have HB := n7_
                 clear n0_ n1_ n2_ n3_ n4_ n5_ n6_ n7_
                 (try clear hb)
                 (try clear hb2)
                 (try clear hk)
                 (try clear hi)
                 refine hK.out _ _ ⟨(blk_cell BK399.out 0).trans rfl, (blk_cell BK399.out 1).trans rfl, (blk_cell BK399.out 2).trans rfl, (blk_cell BK399.out 3).trans rfl, (blk_cell BK399.out 4).trans rfl, (blk_cell BK399.out 5).trans rfl, (blk_cell BK383.out 0).trans rfl, (blk_cell BK383.out 1).trans rfl, (blk_cell BK383.out 2).trans rfl, (blk_cell BK383.out 3).trans rfl, (blk_cell BK383.out 4).trans rfl, (blk_cell BK383.out 5).trans rfl, (blk_cell BK383.out 6).trans rfl, (blk_cell BK383.out 7).trans rfl, (blk_cell BK382.out 0).trans rfl, (blk_cell BK382.out 1).trans rfl, (blk_cell BK382.out 2).trans rfl, (blk_cell BK382.out 3).trans rfl, (blk_cell BK382.out 4).trans rfl, (blk_cell BK382.out 5).trans rfl⟩ (fun hHeld => ?_)
                 clear hK K
                 refine norm_ (a' := ?_) ?_ ?_
                 rotate_left
                 · show Act.put _ (some 83) _ = _
                   simp only [Act.put, sT, sZ, sS, i64_w, i32_w]
                   rfl
                 refine one_ (i := 9) (N := some 88) (tf 10 14) rfl rfl (one_of HT_.out (by kernel_rfl)) (by decide) (fun K hK => ?_)
                 refine goes_ Try.func38 (by kernel_rfl) rfl #[.slice A0_2 l0_2.length c0_2, .slice A1_2 l1_2.length c1_2] (by rfl) rfl rfl (by (try simp only [List.map_toArray, List.map_cons, List.map_nil]); first | done | rfl | (simp only [List.length_drop, List.length_take]; rfl)) ?_
                 with_reducible refine (cond_TakesPath.calls k4 _ _ l0_2 _ _ l1_2 t417 _ ?side1 ?side2 ?side3 ?side4 A73.out).mono ?_
                 (case side1 => repeat (first | exact (Kd.C_below HR0_2.out HB.out) | (with_reducible refine Kd.C_alloc ?_ _) | (with_reducible refine Kd.C_drewN ?_ _) | (with_reducible refine Kd.C_drew ?_)))
                 (case side2 => exact HC0_2.out)
                 (case side3 => repeat (first | exact (Kd.C_below HR1_2.out HB.out) | (with_reducible refine Kd.C_alloc ?_ _) | (with_reducible refine Kd.C_drewN ?_ _) | (with_reducible refine Kd.C_drew ?_)))
                 (case side4 => exact HC1_2.out)
                 rintro e w80 ⟨rfl, hb⟩
                 refine ⟨_, rfl, ?_⟩
                 have n0_ := aM (Kd.R_below (uk_ HO_8.out) hb)
                 have n1_ := aM (Kd.R_below (uk_ HO_400001.out) hb)
                 have n2_ := aM (Kd.N_below (by (with_reducible repeat (first | apply Kd.N_alloc | apply Kd.N_drewN | apply Kd.N_drew)); exact HO_400002.out) hb)
                 have n3_ := aM (Kd.N_below (by (with_reducible repeat (first | apply Kd.N_alloc | apply Kd.N_drewN | apply Kd.N_drew)); exact HO_400003.out) hb)
                 have n4_ := aM (blk_below (g := gb382) (o := .cells #[.int .i64 a0_0, .slice A0_1 l0_1.length c0_1, .slice A0_2 l0_2.length c0_2, .slice A0_3 l0_3.length c0_3, .int .u32 a0_4, .int .u32 a0_5] 46 (0, 0)) (up_ BK382.out) hb)
                 have n5_ := aM (blk_below (g := gb383) (o := .cells #[.int .u32 a1_0, .int .i64 a1_1, .slice A1_2 l1_2.length c1_2, .slice A1_3 l1_3.length c1_3, .int .u32 a1_4, .int .u32 a1_5, .int .i64 a1_6, .int .u32 a1_7] 50 (0, 0)) (up_ BK383.out) hb)
                 have n6_ := aM (blk_below (g := gb399) (o := .cells #[.int .i64 t387, .slice Ao31 t388.length co31, .slice Ao78 x400002_22.length co78, u400003, .int .u32 t397, .int .u32 t398] 46 (0, 0)) (up_ BK399.out) hb)
                 have n7_ := aM (below_step (by repeat (first | (with_reducible first | exact HB.out | apply blA | apply blN | apply blD | refine bS ?_ GE382.out | refine bS ?_ GE383.out | refine bS ?_ GE399.out) | exact HB.out)) hb)
                 clear HO_8
                 clear HO_400001
                 clear HO_400002
                 clear HO_400003
                 clear BK382
                 clear BK383
                 clear BK399
                 clear HB
                 have HO_8 := n0_
                 have HO_400001 := n1_
                 have HO_400002 := n2_
                 have HO_400003 := n3_
                 have BK382 := n4_
                 have BK383 := n5_
                 have BK399 := n6_
                 have HB := n7_
                 clear n0_ n1_ n2_ n3_ n4_ n5_ n6_ n7_
                 (try clear hb)
                 (try clear hb2)
                 (try clear hk)
                 (try clear hi)
                 obtain ⟨Ao81, co81, eo81⟩ := Kd.N_slice HO_400003.out
                 (first | subst eo81 | (injection eo81 with f1_ f2_ f3_; have f4_ := f1_.symm; have f5_ := f3_.symm; clear f1_ f2_ f3_; subst f4_; subst f5_))
                 obtain ⟨Ao82, co82, eo82⟩ := Kd.R_slice HO_8.out
                 (first | subst eo82 | (injection eo82 with f1_ f2_ f3_; have f4_ := f1_.symm; have f5_ := f3_.symm; clear f1_ f2_ f3_; subst f4_; subst f5_))
                 refine hK.out _ _ ⟨(blk_cell BK399.out 0).trans rfl, (blk_cell BK399.out 1).trans rfl, (blk_cell BK399.out 2).trans rfl, (blk_cell BK399.out 3).trans rfl, (blk_cell BK399.out 4).trans rfl, (blk_cell BK399.out 5).trans rfl, (blk_cell BK383.out 0).trans rfl, (blk_cell BK383.out 1).trans rfl, (blk_cell BK383.out 2).trans rfl, (blk_cell BK383.out 3).trans rfl, (blk_cell BK383.out 4).trans rfl, (blk_cell BK383.out 5).trans rfl, (blk_cell BK383.out 6).trans rfl, (blk_cell BK383.out 7).trans rfl, (blk_cell BK382.out 0).trans rfl, (blk_cell BK382.out 1).trans rfl, (blk_cell BK382.out 2).trans rfl, (blk_cell BK382.out 3).trans rfl, (blk_cell BK382.out 4).trans rfl, (blk_cell BK382.out 5).trans rfl⟩ (fun hHeld => ?_)
                 clear hK K
                 refine norm_ (a' := ?_) ?_ ?_
                 rotate_left
                 · show Act.put _ (some 88) _ = _
                   simp only [Act.put, sT, sZ, sS, i64_w, i32_w]
                   rfl
                 refine pure_ (i := 10) (N := some 89) (v := ?_) (a' := ?_) (tf 11 13) rfl rfl (any_of HT_.out (by kernel_rfl)) (fun _ _ _ h => h) (Or.inl ⟨by rfl, ?_⟩) ?_ ?_
                 rotate_left
                 · intro w'
                   go_simp
                   with_reducible rfl
                 rotate_left
                 · simp only [Act.put, sT, sZ, sS, i64_w, i32_w]
                   rfl
                 refine pure_ (i := 11) (N := some 90) (v := ?_) (a' := ?_) (tf 12 12) rfl rfl (any_of HT_.out (by kernel_rfl)) (fun _ _ _ h => h) (Or.inl ⟨by rfl, ?_⟩) ?_ ?_
                 rotate_left
                 · intro w'
                   go_simp
                   with_reducible rfl
                 rotate_left
                 · simp only [Act.put, sT, sZ, sS, i64_w, i32_w]
                   rfl
                 refine pure_ (i := 12) (N := some 91) (v := ?_) (a' := ?_) (tf 13 11) rfl rfl (any_of HT_.out (by kernel_rfl)) (fun _ _ _ h => h) (Or.inl ⟨by rfl, ?_⟩) ?_ ?_
                 rotate_left
                 · intro w'
                   go_simp
                   with_reducible rfl
                 rotate_left
                 · simp only [Act.put, sT, sZ, sS, i64_w, i32_w]
                   rfl
                 refine pure_ (i := 14) (N := some 93) (v := ?_) (a' := ?_) #[true, true, true, true, true, true, true, true, true, true, true, true, true, false, true, false, false, false, false, false, false, false, false, false] rfl rfl (any_of HT_.out (by kernel_rfl)) (fun _ _ _ h => h) (Or.inl ⟨by rfl, ?_⟩) ?_ ?_
                 rotate_left
                 · intro w'
                   go_simp
                   with_reducible rfl
                 rotate_left
                 · simp only [Act.put, sT, sZ, sS, i64_w, i32_w]
                   rfl
                 refine pure_ (i := 16) (N := some 95) (v := ?_) (a' := ?_) #[true, true, true, true, true, true, true, true, true, true, true, true, true, false, true, false, true, false, false, false, false, false, false, false] rfl rfl (any_of HT_.out (by kernel_rfl)) (fun _ _ _ h => h) (Or.inl ⟨by rfl, ?_⟩) ?_ ?_
                 rotate_left
                 · intro w'
                   go_simp
                   with_reducible rfl
                 rotate_left
                 · simp only [Act.put, sT, sZ, sS, i64_w, i32_w]
                   rfl
                 refine pure_ (i := 18) (N := some 97) (v := ?_) (a' := ?_) #[true, true, true, true, true, true, true, true, true, true, true, true, true, false, true, false, true, false, true, false, false, false, false, false] rfl rfl (any_of HT_.out (by kernel_rfl)) (fun _ _ _ h => h) (Or.inl ⟨by rfl, ?_⟩) ?_ ?_
                 rotate_left
                 · intro w'
                   go_simp
                   with_reducible rfl
                 rotate_left
                 · simp only [Act.put, sT, sZ, sS, i64_w, i32_w]
                   rfl
                 refine take_ (i := 13) (N := some 92) (v := ?_) (a' := ?_) #[true, true, true, true, true, true, true, true, true, true, true, true, true, true, true, false, true, false, true, false, false, false, false, false] rfl rfl (take_ofW HT_.out HW_.out (by kernel_rfl)) (fun _ _ _ h => h) (Or.inl ⟨by rfl, ?_⟩) hHeld ?_ ?_
                 rotate_left
                 · rintro w' ⟨s0, s1, s2, s3, s4, s5, s6, s7, s8, s9, s10, s11, s12, s13, s14, s15, s16, s17, s18, s19⟩
                   go_simp
                   with_reducible rfl
                 rotate_left
                 · simp only [Act.put, sT, sZ, sS, i64_w, i32_w]
                   rfl
                 refine take_ (i := 17) (N := some 96) (v := ?_) (a' := ?_) #[true, true, true, true, true, true, true, true, true, true, true, true, true, true, true, false, true, true, true, false, false, false, false, false] rfl rfl (take_ofW HT_.out HW_.out (by kernel_rfl)) (fun _ _ _ h => h) (Or.inl ⟨by rfl, ?_⟩) hHeld ?_ ?_
                 rotate_left
                 · rintro w' ⟨s0, s1, s2, s3, s4, s5, s6, s7, s8, s9, s10, s11, s12, s13, s14, s15, s16, s17, s18, s19⟩
                   go_simp
                   with_reducible rfl
                 rotate_left
                 · simp only [Act.put, sT, sZ, sS, i64_w, i32_w]
                   rfl
                 refine take_ (i := 19) (N := some 98) (v := ?_) (a' := ?_) #[true, true, true, true, true, true, true, true, true, true, true, true, true, true, true, false, true, true, true, true, false, false, false, false] rfl rfl (take_ofW HT_.out HW_.out (by kernel_rfl)) (fun _ _ _ h => h) (Or.inl ⟨by rfl, ?_⟩) hHeld ?_ ?_
                 rotate_left
                 · rintro w' ⟨s0, s1, s2, s3, s4, s5, s6, s7, s8, s9, s10, s11, s12, s13, s14, s15, s16, s17, s18, s19⟩
                   go_simp
                   with_reducible rfl
                 rotate_left
                 · simp only [Act.put, sT, sZ, sS, i64_w, i32_w]
                   rfl
                 refine one_ (i := 15) (N := some 94) (tf 20 4) rfl rfl (one_of HT_.out (by kernel_rfl)) (by decide) (fun K hK => ?_)
                 refine goes_ Try.func40 (by kernel_rfl) rfl #[.slice Ao81 x400003_45.length co81, .slice Ao82 x8_4.length co82] (by rfl) rfl rfl (by (try simp only [List.map_toArray, List.map_cons, List.map_nil]); first | done | rfl | (simp only [List.length_drop, List.length_take]; rfl)) ?_
                 with_reducible refine (cond_TakesComms.calls _ _ x400003_45 _ _ x8_4 t418 _ ?side1 ?side2 ?side3 ?side4 A75.out).mono ?_
                 (case side1 => repeat (first | exact (Kd.N_reads' HO_400003.out).2.2 | (with_reducible refine Kd.C_alloc ?_ _) | (with_reducible refine Kd.C_drewN ?_ _) | (with_reducible refine Kd.C_drew ?_)))
                 (case side2 => exact (Kd.N_reads' HO_400003.out).2.1)
                 (case side3 => repeat (first | exact (Kd.R_reads' HO_8.out).2.2 | (with_reducible refine Kd.C_alloc ?_ _) | (with_reducible refine Kd.C_drewN ?_ _) | (with_reducible refine Kd.C_drew ?_)))
                 (case side4 => exact (Kd.R_reads' HO_8.out).2.1)
                 rintro e w83 ⟨rfl, hb⟩
                 refine ⟨_, rfl, ?_⟩
                 have n0_ := aM (Kd.R_below (uk_ HO_8.out) hb)
                 have n1_ := aM (Kd.R_below (uk_ HO_400001.out) hb)
                 have n2_ := aM (Kd.N_below (by (with_reducible repeat (first | apply Kd.N_alloc | apply Kd.N_drewN | apply Kd.N_drew)); exact HO_400002.out) hb)
                 have n3_ := aM (Kd.N_below (by (with_reducible repeat (first | apply Kd.N_alloc | apply Kd.N_drewN | apply Kd.N_drew)); exact HO_400003.out) hb)
                 have n4_ := aM (blk_below (g := gb382) (o := .cells #[.int .i64 a0_0, .slice A0_1 l0_1.length c0_1, .slice A0_2 l0_2.length c0_2, .slice A0_3 l0_3.length c0_3, .int .u32 a0_4, .int .u32 a0_5] 46 (0, 0)) (up_ BK382.out) hb)
                 have n5_ := aM (blk_below (g := gb383) (o := .cells #[.int .u32 a1_0, .int .i64 a1_1, .slice A1_2 l1_2.length c1_2, .slice A1_3 l1_3.length c1_3, .int .u32 a1_4, .int .u32 a1_5, .int .i64 a1_6, .int .u32 a1_7] 50 (0, 0)) (up_ BK383.out) hb)
                 have n6_ := aM (blk_below (g := gb399) (o := .cells #[.int .i64 t387, .slice Ao31 t388.length co31, .slice Ao78 x400002_22.length co78, .slice Ao81 x400003_45.length co81, .int .u32 t397, .int .u32 t398] 46 (0, 0)) (up_ BK399.out) hb)
                 have n7_ := aM (below_step (by repeat (first | (with_reducible first | exact HB.out | apply blA | apply blN | apply blD | refine bS ?_ GE382.out | refine bS ?_ GE383.out | refine bS ?_ GE399.out) | exact HB.out)) hb)
                 clear HO_8
                 clear HO_400001
                 clear HO_400002
                 clear HO_400003
                 clear BK382
                 clear BK383
                 clear BK399
                 clear HB
                 have HO_8 := n0_
                 have HO_400001 := n1_
                 have HO_400002 := n2_
                 have HO_400003 := n3_
                 have BK382 := n4_
                 have BK383 := n5_
                 have BK399 := n6_
                 have HB := n7_
                 clear n0_ n1_ n2_ n3_ n4_ n5_ n6_ n7_
                 (try clear hb)
                 (try clear hb2)
                 (try clear hk)
                 (try clear hi)
                 refine hK.out _ _ ⟨(blk_cell BK399.out 0).trans rfl, (blk_cell BK399.out 1).trans rfl, (blk_cell BK399.out 2).trans rfl, (blk_cell BK399.out 3).trans rfl, (blk_cell BK399.out 4).trans rfl, (blk_cell BK399.out 5).trans rfl, (blk_cell BK383.out 0).trans rfl, (blk_cell BK383.out 1).trans rfl, (blk_cell BK383.out 2).trans rfl, (blk_cell BK383.out 3).trans rfl, (blk_cell BK383.out 4).trans rfl, (blk_cell BK383.out 5).trans rfl, (blk_cell BK383.out 6).trans rfl, (blk_cell BK383.out 7).trans rfl, (blk_cell BK382.out 0).trans rfl, (blk_cell BK382.out 1).trans rfl, (blk_cell BK382.out 2).trans rfl, (blk_cell BK382.out 3).trans rfl, (blk_cell BK382.out 4).trans rfl, (blk_cell BK382.out 5).trans rfl⟩ (fun hHeld => ?_)
                 clear hK K
                 refine norm_ (a' := ?_) ?_ ?_
                 rotate_left
                 · show Act.put _ (some 94) _ = _
                   simp only [Act.put, sT, sZ, sS, i64_w, i32_w]
                   rfl
                 refine one_ (i := 20) (N := some 99) (tf 21 3) rfl rfl (one_of HT_.out (by kernel_rfl)) (by decide) (fun K hK => ?_)
                 refine goes_ Try.func40 (by kernel_rfl) rfl #[.slice A0_3 l0_3.length c0_3, .slice A1_3 l1_3.length c1_3] (by rfl) rfl rfl (by (try simp only [List.map_toArray, List.map_cons, List.map_nil]); first | done | rfl | (simp only [List.length_drop, List.length_take]; rfl)) ?_
                 with_reducible refine (cond_TakesComms.calls _ _ l0_3 _ _ l1_3 t419 _ ?side1 ?side2 ?side3 ?side4 A76.out).mono ?_
                 (case side1 => repeat (first | exact (Kd.C_below HR0_3.out HB.out) | (with_reducible refine Kd.C_alloc ?_ _) | (with_reducible refine Kd.C_drewN ?_ _) | (with_reducible refine Kd.C_drew ?_)))
                 (case side2 => exact HC0_3.out)
                 (case side3 => repeat (first | exact (Kd.C_below HR1_3.out HB.out) | (with_reducible refine Kd.C_alloc ?_ _) | (with_reducible refine Kd.C_drewN ?_ _) | (with_reducible refine Kd.C_drew ?_)))
                 (case side4 => exact HC1_3.out)
                 rintro e w84 ⟨rfl, hb⟩
                 refine ⟨_, rfl, ?_⟩
                 have n0_ := aM (Kd.R_below (uk_ HO_8.out) hb)
                 have n1_ := aM (Kd.R_below (uk_ HO_400001.out) hb)
                 have n2_ := aM (Kd.N_below (by (with_reducible repeat (first | apply Kd.N_alloc | apply Kd.N_drewN | apply Kd.N_drew)); exact HO_400002.out) hb)
                 have n3_ := aM (Kd.N_below (by (with_reducible repeat (first | apply Kd.N_alloc | apply Kd.N_drewN | apply Kd.N_drew)); exact HO_400003.out) hb)
                 have n4_ := aM (blk_below (g := gb382) (o := .cells #[.int .i64 a0_0, .slice A0_1 l0_1.length c0_1, .slice A0_2 l0_2.length c0_2, .slice A0_3 l0_3.length c0_3, .int .u32 a0_4, .int .u32 a0_5] 46 (0, 0)) (up_ BK382.out) hb)
                 have n5_ := aM (blk_below (g := gb383) (o := .cells #[.int .u32 a1_0, .int .i64 a1_1, .slice A1_2 l1_2.length c1_2, .slice A1_3 l1_3.length c1_3, .int .u32 a1_4, .int .u32 a1_5, .int .i64 a1_6, .int .u32 a1_7] 50 (0, 0)) (up_ BK383.out) hb)
                 have n6_ := aM (blk_below (g := gb399) (o := .cells #[.int .i64 t387, .slice Ao31 t388.length co31, .slice Ao78 x400002_22.length co78, .slice Ao81 x400003_45.length co81, .int .u32 t397, .int .u32 t398] 46 (0, 0)) (up_ BK399.out) hb)
                 have n7_ := aM (below_step (by repeat (first | (with_reducible first | exact HB.out | apply blA | apply blN | apply blD | refine bS ?_ GE382.out | refine bS ?_ GE383.out | refine bS ?_ GE399.out) | exact HB.out)) hb)
                 clear HO_8
                 clear HO_400001
                 clear HO_400002
                 clear HO_400003
                 clear BK382
                 clear BK383
                 clear BK399
                 clear HB
                 have HO_8 := n0_
                 have HO_400001 := n1_
                 have HO_400002 := n2_
                 have HO_400003 := n3_
                 have BK382 := n4_
                 have BK383 := n5_
                 have BK399 := n6_
                 have HB := n7_
                 clear n0_ n1_ n2_ n3_ n4_ n5_ n6_ n7_
                 (try clear hb)
                 (try clear hb2)
                 (try clear hk)
                 (try clear hi)
                 refine hK.out _ _ ⟨(blk_cell BK399.out 0).trans rfl, (blk_cell BK399.out 1).trans rfl, (blk_cell BK399.out 2).trans rfl, (blk_cell BK399.out 3).trans rfl, (blk_cell BK399.out 4).trans rfl, (blk_cell BK399.out 5).trans rfl, (blk_cell BK383.out 0).trans rfl, (blk_cell BK383.out 1).trans rfl, (blk_cell BK383.out 2).trans rfl, (blk_cell BK383.out 3).trans rfl, (blk_cell BK383.out 4).trans rfl, (blk_cell BK383.out 5).trans rfl, (blk_cell BK383.out 6).trans rfl, (blk_cell BK383.out 7).trans rfl, (blk_cell BK382.out 0).trans rfl, (blk_cell BK382.out 1).trans rfl, (blk_cell BK382.out 2).trans rfl, (blk_cell BK382.out 3).trans rfl, (blk_cell BK382.out 4).trans rfl, (blk_cell BK382.out 5).trans rfl⟩ (fun hHeld => ?_)
                 clear hK K
                 refine norm_ (a' := ?_) ?_ ?_
                 rotate_left
                 · show Act.put _ (some 99) _ = _
                   simp only [Act.put, sT, sZ, sS, i64_w, i32_w]
                   rfl
                 refine pure_ (i := 21) (N := some 100) (v := ?_) (a' := ?_) (tf 22 2) rfl rfl (any_of HT_.out (by kernel_rfl)) (fun _ _ _ h => h) (Or.inl ⟨by rfl, ?_⟩) ?_ ?_
                 rotate_left
                 · intro w'
                   go_simp
                   with_reducible rfl
                 rotate_left
                 · simp only [Act.put, sT, sZ, sS, i64_w, i32_w]
                   rfl
                 refine pure_ (i := 22) (N := some 101) (v := ?_) (a' := ?_) (tf 23 1) rfl rfl (any_of HT_.out (by kernel_rfl)) (fun _ _ _ h => h) (Or.inl ⟨by rfl, ?_⟩) ?_ ?_
                 rotate_left
                 · intro w'
                   go_simp
                   with_reducible rfl
                 rotate_left
                 · simp only [Act.put, sT, sZ, sS, i64_w, i32_w]
                   rfl
                 refine pure_ (i := 23) (N := some 6) (v := ?_) (a' := ?_) (tf 24 0) rfl rfl (any_of HT_.out (by kernel_rfl)) (fun _ _ _ h => h) (Or.inl ⟨by rfl, ?_⟩) ?_ ?_
                 rotate_left
                 · intro w'
                   go_simp
                   with_reducible rfl
                 rotate_left
                 · simp only [Act.put, sT, sZ, sS, i64_w, i32_w]
                   rfl
                 refine done_ (done_of HT_.out (by kernel_rfl)) ?_
                 try go_wp2
                 first | go_ret | refine ⟨_, results_tmp rfl _ _ _, ?_⟩
                 exact ⟨by first | rfl | (simp [errW_none, errW_some] <;> rfl) | (simp [*, errW_none, errW_some] <;> rfl), by repeat (first | (with_reducible first | exact HB.out | apply blA | apply blN | apply blD | refine bS ?_ GE382.out | refine bS ?_ GE383.out | refine bS ?_ GE399.out) | exact HB.out)⟩
               · rw [if_neg c74] at H
                 exact absurd H (by simp)
 · replace c5 := Bool.eq_false_iff.mpr c5
   subst c5
   have H1 : (none) = some r := by rw [if_neg (show ¬ (false = true) by decide)] at H; exact H
   clear H
   have H := H1
   clear H1
   exact absurd H (by simp)
end Go.Proofs.Ytlkjfjlmjgkheaa.H
