import Derived.Test.YtlkjfjlmjgkheaaHx0
import Derived.Test.YtlkjfjlmjgkheaaHx8
import Derived.Test.YtlkjfjlmjgkheaaHx9
import Derived.Test.YtlkjfjlmjgkheaaHx11
import Derived.Test.YtlkjfjlmjgkheaaHx12
import Derived.Test.YtlkjfjlmjgkheaaHx16
import Derived.Test.YtlkjfjlmjgkheaaHx17
namespace Go.Proofs.Ytlkjfjlmjgkheaa.H
open Go.RowKit Go.Proofs.YtlkjfjlmjgkheaaW.PrintWords Go.Proofs.YtlkjfjlmjgkheaaW.PrintLast Go.Proofs.YtlkjfjlmjgkheaaW.PrintMore
attribute [local go_sem] max2_int min2_int max_two min_two max_three min_three max_four min_four
set_option linter.unusedVariables false
set_option linter.unusedSimpArgs false
def dragomanlaw11_CondLists.j0 : Nat → Bool → Int → List (S83) → List (S61) → List (S64) → Int → Int → Int → Int → List Int → List Int → Int → Int → Int → Int → Option (Bool)
 | 0, _, _, _, _, _, _, _, _, _, _, _, _, _, _, _ => none
 | k + 1, x12, x279000, x279001, x279002, x279003, x279004, x279005, x280000, x280001, x280002, x280003, x280004, x280005, x280006, x280007 => if x12 = true then (some true) else ((cond_TakesPath.f k x279002 x280002).bind fun t283 => ((dragomanref11_TakesPath.f k x279002 x280002).bind fun t284 => (if (t283 == t284) = true then ((cond_TakesComms.f x279003 x280003).bind fun t285 => ((dragomanref11_TakesComms.f k x279003 x280003).bind fun t286 => (some (t285 == t286)))) else (none))))
def dragomanlaw11_CondLists.f (k : Nat) (a0_0 : Int) (l0_1 : List (S83)) (l0_2 : List (S61)) (l0_3 : List (S64)) (a0_4 : Int) (a0_5 : Int) (a1_0 : Int) (a1_1 : Int) (l1_2 : List Int) (l1_3 : List Int) (a1_4 : Int) (a1_5 : Int) (a1_6 : Int) (a1_7 : Int) : Option (Bool) := (dragomanlaw11_alive.f k).bind fun t280 => (if t280 = true then ((dragomanref11_Great.f k a0_0 l0_1 l0_2 l0_3 a0_4 a0_5).bind fun t281 => (if t281 = true then (dragomanlaw11_CondLists.j0 k true a0_0 l0_1 l0_2 l0_3 a0_4 a0_5 a1_0 a1_1 l1_2 l1_3 a1_4 a1_5 a1_6 a1_7) else ((r3_Great.f a1_0 a1_1 l1_2 l1_3 a1_4 a1_5 a1_6 a1_7).bind fun t282 => (dragomanlaw11_CondLists.j0 k t282 a0_0 l0_1 l0_2 l0_3 a0_4 a0_5 a1_0 a1_1 l1_2 l1_3 a1_4 a1_5 a1_6 a1_7)))) else (none))
def dragomanlaw11_CondLists.T5 : Bool × List (List Nat × List Nat) := (true, [([], []), ([0], [0]), ([], []), ([2], [2]), ([1, 3], [1, 3]), ([], []), ([5], [5]), ([], []), ([7], [7]), ([6, 8, 4], [6, 8]), ([4, 9], [4, 9]), ([10, 9], [10]), ([11], [11]), ([12, 11], [11, 12]), ([11], [11]), ([14, 11], [11, 14]), ([13, 15, 11, 11], [11, 13, 15]), ([11], [11]), ([17, 11], [11, 17]), ([11], [11]), ([19, 11], [11, 19]), ([18, 20, 16, 11], [11, 18, 20]), ([16, 21, 11], [11, 16, 21]), ([11, 22], [11, 22]), ([23, 21, 0, 1, 2, 3, 4, 5, 6, 7, 8, 9, 10, 11, 12, 13, 14, 15, 16, 17, 18, 19, 20, 21, 22, 23], [23])])
def dragomanlaw11_CondLists.B5 : List Nat := [0, 1, 0, 4, 15, 0, 32, 0, 128, 511, 1023, 2047, 4095, 8191, 4095, 20479, 65535, 4095, 135167, 4095, 528383, 2097151, 4194303, 8388607, 16777215]
theorem dragomanlaw11_CondLists.tab5 : rtab .any (opsOf Try.f9 5) = dragomanlaw11_CondLists.T5 := by kernel_rfl
theorem dragomanlaw11_CondLists.bits5 : waitsOk dragomanlaw11_CondLists.T5.2 dragomanlaw11_CondLists.B5 = true := by kernel_rfl
set_option maxHeartbeats 8000000 in
set_option maxRecDepth 100000 in
theorem dragomanlaw11_CondLists.calls (k : Nat) (a0_0 : Int) (A0_1 : Option Addr) (c0_1 : Nat) (l0_1 : List (S83)) (A0_2 : Option Addr) (c0_2 : Nat) (l0_2 : List (S61)) (A0_3 : Option Addr) (c0_3 : Nat) (l0_3 : List (S64)) (a0_4 : Int) (a0_5 : Int) (a1_0 : Int) (a1_1 : Int) (A1_2 : Option Addr) (c1_2 : Nat) (l1_2 : List Int) (A1_3 : Option Addr) (c1_3 : Nat) (l1_3 : List Int) (a1_4 : Int) (a1_5 : Int) (a1_6 : Int) (a1_7 : Int) (r : Bool) (w : World) (hr0_1 : Kd.C k83 w A0_1 l0_1.length l0_1) (hc0_1 : l0_1.length ≤ c0_1) (hr0_2 : Kd.C k61 w A0_2 l0_2.length l0_2) (hc0_2 : l0_2.length ≤ c0_2) (hr0_3 : Kd.C k64 w A0_3 l0_3.length l0_3) (hc0_3 : l0_3.length ≤ c0_3) (hr1_2 : Kd.C (Kd.int .u32) w A1_2 l1_2.length l1_2) (hc1_2 : l1_2.length ≤ c1_2) (hr1_3 : Kd.C (Kd.int .u32) w A1_3 l1_3.length l1_3) (hc1_3 : l1_3.length ≤ c1_3) (h : dragomanlaw11_CondLists.f k a0_0 l0_1 l0_2 l0_3 a0_4 a0_5 a1_0 a1_1 l1_2 l1_3 a1_4 a1_5 a1_6 a1_7 = some r) :
 Calls Try.prog 9 #[.agg #[.int .i64 a0_0, .slice A0_1 l0_1.length c0_1, .slice A0_2 l0_2.length c0_2, .slice A0_3 l0_3.length c0_3, .int .u32 a0_4, .int .u32 a0_5], .agg #[.int .u32 a1_0, .int .i64 a1_1, .slice A1_2 l1_2.length c1_2, .slice A1_3 l1_3.length c1_3, .int .u32 a1_4, .int .u32 a1_5, .int .i64 a1_6, .int .u32 a1_7]] w fun e w' => e = .returned (.bool r) ∧ Below w.heap.size w w' := by
 have hu46 := Try.underlying46
 have hu50 := Try.underlying50
 have HR0_1 := aM hr0_1
 have HC0_1 := aM hc0_1
 clear hr0_1 hc0_1
 have HR0_2 := aM hr0_2
 have HC0_2 := aM hc0_2
 clear hr0_2 hc0_2
 have HR0_3 := aM hr0_3
 have HC0_3 := aM hc0_3
 clear hr0_3 hc0_3
 have HR1_2 := aM hr1_2
 have HC1_2 := aM hc1_2
 clear hr1_2 hc1_2
 have HR1_3 := aM hr1_3
 have HC1_3 := aM hc1_3
 clear hr1_3 hc1_3
 have HB := aM (Below.refl w.heap.size w)
 have H : ((dragomanlaw11_alive.f k).bind fun t280 => (if t280 = true then ((dragomanref11_Great.f k a0_0 l0_1 l0_2 l0_3 a0_4 a0_5).bind fun t281 => (if t281 = true then (dragomanlaw11_CondLists.j0 k true a0_0 l0_1 l0_2 l0_3 a0_4 a0_5 a1_0 a1_1 l1_2 l1_3 a1_4 a1_5 a1_6 a1_7) else ((r3_Great.f a1_0 a1_1 l1_2 l1_3 a1_4 a1_5 a1_6 a1_7).bind fun t282 => (dragomanlaw11_CondLists.j0 k t282 a0_0 l0_1 l0_2 l0_3 a0_4 a0_5 a1_0 a1_1 l1_2 l1_3 a1_4 a1_5 a1_6 a1_7)))) else (none))) = some r := h
 clear h
 replace H := Option.bind_eq_some_iff.mp H
 obtain ⟨t280, A30, H⟩ := H
 replace H : (if t280 = true then ((dragomanref11_Great.f k a0_0 l0_1 l0_2 l0_3 a0_4 a0_5).bind fun t281 => (if t281 = true then (dragomanlaw11_CondLists.j0 k true a0_0 l0_1 l0_2 l0_3 a0_4 a0_5 a1_0 a1_1 l1_2 l1_3 a1_4 a1_5 a1_6 a1_7) else ((r3_Great.f a1_0 a1_1 l1_2 l1_3 a1_4 a1_5 a1_6 a1_7).bind fun t282 => (dragomanlaw11_CondLists.j0 k t282 a0_0 l0_1 l0_2 l0_3 a0_4 a0_5 a1_0 a1_1 l1_2 l1_3 a1_4 a1_5 a1_6 a1_7)))) else (none)) = some r := H
 have A3 := aM A30
 clear A30
 by_cases c4 : t280 = true
 · subst c4
   have H1 : ((dragomanref11_Great.f k a0_0 l0_1 l0_2 l0_3 a0_4 a0_5).bind fun t281 => (if t281 = true then (dragomanlaw11_CondLists.j0 k true a0_0 l0_1 l0_2 l0_3 a0_4 a0_5 a1_0 a1_1 l1_2 l1_3 a1_4 a1_5 a1_6 a1_7) else ((r3_Great.f a1_0 a1_1 l1_2 l1_3 a1_4 a1_5 a1_6 a1_7).bind fun t282 => (dragomanlaw11_CondLists.j0 k t282 a0_0 l0_1 l0_2 l0_3 a0_4 a0_5 a1_0 a1_1 l1_2 l1_3 a1_4 a1_5 a1_6 a1_7)))) = some r := by rw [if_pos rfl] at H; exact H
   clear H
   have H := H1
   clear H1
   have HC5 := aM H
   clear H
   go_enter Try.func9, Try.ntmps9
   go_upto_region 3 with (first | ((with_reducible refine gate_dst (N := 2) rfl ?_); refine box_event ?hg (N := 2) ?hd (cs := #[.int .i64 a0_0, .slice A0_1 l0_1.length c0_1, .slice A0_2 l0_2.length c0_2, .slice A0_3 l0_3.length c0_3, .int .u32 a0_4, .int .u32 a0_5]) (t := 46) ?hr ?_; (case hd => rfl); (case hg => rfl); (case hr => first | (go_simp; done) | (go_simp; rfl)); intro gb278 hg w6 hbox hb; have n0_ := aM (below_step (by repeat (first | (with_reducible first | exact HB.out | apply blA | apply blN | apply blD) | exact HB.out)) hb); have n1_ := aM (hbox); have n2_ := aM ((by rw [hg]; exact (below_size (by repeat (first | (with_reducible first | exact HB.out | apply blA | apply blN | apply blD) | exact HB.out))) : w.heap.size ≤ gb278)); have n3_ := aM ((by rw [hg]; exact (below_size (by repeat (first | (with_reducible first | exact HB.out | apply blA | apply blN | apply blD) | exact HB.out))) : w.heap.size ≤ gb278)); clear HB; have HB := n0_; have BK278 := n1_; have GW278 := n2_; have GE278 := n3_; clear n0_ n1_ n2_ n3_; clear hb hbox hg) | ((with_reducible refine gate_dst (N := 3) rfl ?_); refine box_event ?hg (N := 3) ?hd (cs := #[.int .u32 a1_0, .int .i64 a1_1, .slice A1_2 l1_2.length c1_2, .slice A1_3 l1_3.length c1_3, .int .u32 a1_4, .int .u32 a1_5, .int .i64 a1_6, .int .u32 a1_7]) (t := 50) ?hr ?_; (case hd => rfl); (case hg => rfl); (case hr => first | (go_simp; done) | (go_simp; rfl)); intro gb279 hg w7 hbox hb; have n0_ := aM (blk_below (g := gb278) (o := .cells #[.int .i64 a0_0, .slice A0_1 l0_1.length c0_1, .slice A0_2 l0_2.length c0_2, .slice A0_3 l0_3.length c0_3, .int .u32 a0_4, .int .u32 a0_5] 46 (0, 0)) (by (with_reducible repeat (first | apply bkN | apply bkD | apply bkA)); exact BK278.out) hb); have n1_ := aM (below_step (by repeat (first | (with_reducible first | exact HB.out | apply blA | apply blN | apply blD | refine bS ?_ GE278.out) | exact HB.out)) hb); have n2_ := aM (hbox); have n3_ := aM ((by rw [hg]; exact (below_size (by repeat (first | (with_reducible first | exact HB.out | apply blA | apply blN | apply blD | refine bS ?_ GE278.out) | exact HB.out))) : w.heap.size ≤ gb279)); have n4_ := aM ((by rw [hg]; exact (below_size (by repeat (first | (with_reducible first | exact HB.out | apply blA | apply blN | apply blD | refine bS ?_ GE278.out) | exact HB.out))) : w.heap.size ≤ gb279)); have n5_ := aM ((by rw [hg]; exact Nat.ne_of_lt (blk_lt (g := gb278) (o := .cells #[.int .i64 a0_0, .slice A0_1 l0_1.length c0_1, .slice A0_2 l0_2.length c0_2, .slice A0_3 l0_3.length c0_3, .int .u32 a0_4, .int .u32 a0_5] 46 (0, 0)) (by (with_reducible repeat (first | apply bkN | apply bkD | apply bkA)); exact BK278.out)) : gb278 ≠ gb279)); have n6_ := aM ((by rw [hg]; exact Nat.ne_of_gt (blk_lt (g := gb278) (o := .cells #[.int .i64 a0_0, .slice A0_1 l0_1.length c0_1, .slice A0_2 l0_2.length c0_2, .slice A0_3 l0_3.length c0_3, .int .u32 a0_4, .int .u32 a0_5] 46 (0, 0)) (by (with_reducible repeat (first | apply bkN | apply bkD | apply bkA)); exact BK278.out)) : gb279 ≠ gb278)); clear BK278; clear HB; have BK278 := n0_; have HB := n1_; have BK279 := n2_; have GW279 := n3_; have GE279 := n4_; have NB278_279 := n5_; have NB279_278 := n6_; clear n0_ n1_ n2_ n3_ n4_ n5_ n6_; clear hb hbox hg) | ((with_reducible refine gate_callee (f := 27) rfl ?_); refine goesL_ (some 5) rfl rfl Try.func27 (by kernel_rfl) rfl #[] rfl (by (try simp only [List.map_toArray, List.map_cons, List.map_nil]); first | done | rfl | (simp only [List.length_drop, List.length_take]; rfl)) ?_; (with_reducible refine (dragomanlaw11_alive.calls k  true _ A3.out).mono ?_); rintro e w8 ⟨rfl, hb⟩; refine ⟨_, rfl, ?_⟩; have n0_ := aM (blk_below (g := gb278) (o := .cells #[.int .i64 a0_0, .slice A0_1 l0_1.length c0_1, .slice A0_2 l0_2.length c0_2, .slice A0_3 l0_3.length c0_3, .int .u32 a0_4, .int .u32 a0_5] 46 (0, 0)) (by (with_reducible repeat (first | apply bkN | apply bkD | apply bkA)); exact BK278.out) hb); have n1_ := aM (blk_below (g := gb279) (o := .cells #[.int .u32 a1_0, .int .i64 a1_1, .slice A1_2 l1_2.length c1_2, .slice A1_3 l1_3.length c1_3, .int .u32 a1_4, .int .u32 a1_5, .int .i64 a1_6, .int .u32 a1_7] 50 (0, 0)) (by (with_reducible repeat (first | apply bkN | apply bkD | apply bkA)); exact BK279.out) hb); have n2_ := aM (below_step (by repeat (first | (with_reducible first | exact HB.out | apply blA | apply blN | apply blD | refine bS ?_ GE278.out | refine bS ?_ GE279.out) | exact HB.out)) hb); clear BK278; clear BK279; clear HB; have BK278 := n0_; have BK279 := n1_; have HB := n2_; clear n0_ n1_ n2_; (try clear hb); (try clear hb2); (try clear hk); (try clear hi)))
   (try simp only [Act.put, List.setIfInBounds_toArray, List.set_cons_zero, List.set_cons_succ])
   go_cut [12] (fun v12 wc => ∃ (kq : Nat) (x12_4 : Bool), v12 = .bool x12_4 ∧ Aside0 (dragomanlaw11_CondLists.j0 kq x12_4 a0_0 l0_1 l0_2 l0_3 a0_4 a0_5 a1_0 a1_1 l1_2 l1_3 a1_4 a1_5 a1_6 a1_7 = some r) ∧ Aside0 (kq ≤ k) ∧ Aside0 (wc.heap[gb278]? = some (.cells #[.int .i64 a0_0, (.slice A0_1 l0_1.length c0_1), (.slice A0_2 l0_2.length c0_2), (.slice A0_3 l0_3.length c0_3), .int .u32 a0_4, .int .u32 a0_5] 46 (0, 0))) ∧ Aside0 (wc.heap[gb279]? = some (.cells #[.int .u32 a1_0, .int .i64 a1_1, (.slice A1_2 l1_2.length c1_2), (.slice A1_3 l1_3.length c1_3), .int .u32 a1_4, .int .u32 a1_5, .int .i64 a1_6, .int .u32 a1_7] 50 (0, 0))) ∧ Aside0 (Below w.heap.size w wc))
   case first =>
    have H := HC5.out
    clear HC5
    replace H := Option.bind_eq_some_iff.mp H
    obtain ⟨t281, A90, H⟩ := H
    replace H : (if t281 = true then (dragomanlaw11_CondLists.j0 k true a0_0 l0_1 l0_2 l0_3 a0_4 a0_5 a1_0 a1_1 l1_2 l1_3 a1_4 a1_5 a1_6 a1_7) else ((r3_Great.f a1_0 a1_1 l1_2 l1_3 a1_4 a1_5 a1_6 a1_7).bind fun t282 => (dragomanlaw11_CondLists.j0 k t282 a0_0 l0_1 l0_2 l0_3 a0_4 a0_5 a1_0 a1_1 l1_2 l1_3 a1_4 a1_5 a1_6 a1_7))) = some r := H
    have A9 := aM A90
    clear A90
    by_cases c10 : t281 = true
    · subst c10
      have H1 : (dragomanlaw11_CondLists.j0 k true a0_0 l0_1 l0_2 l0_3 a0_4 a0_5 a1_0 a1_1 l1_2 l1_3 a1_4 a1_5 a1_6 a1_7) = some r := by rw [if_pos rfl] at H; exact H
      clear H
      have H := H1
      clear H1
      have H' := aM H
      clear H
      have hnb11 := NB278_279.out
      have hnc11 := NB279_278.out
      have hcz12_0 : w8.cell? ⟨gb278, 0, none⟩ = some (.int .i64 a0_0) := (blk_cell BK278.out 0).trans rfl
      have hcz12_1 : w8.cell? ⟨gb278, 1, none⟩ = some (.slice A0_1 l0_1.length c0_1) := (blk_cell BK278.out 1).trans rfl
      have hcz12_2 : w8.cell? ⟨gb278, 2, none⟩ = some (.slice A0_2 l0_2.length c0_2) := (blk_cell BK278.out 2).trans rfl
      have hcz12_3 : w8.cell? ⟨gb278, 3, none⟩ = some (.slice A0_3 l0_3.length c0_3) := (blk_cell BK278.out 3).trans rfl
      have hcz12_4 : w8.cell? ⟨gb278, 4, none⟩ = some (.int .u32 a0_4) := (blk_cell BK278.out 4).trans rfl
      have hcz12_5 : w8.cell? ⟨gb278, 5, none⟩ = some (.int .u32 a0_5) := (blk_cell BK278.out 5).trans rfl
      have hfz12_0 := bF BK278.out 0
      have hfz12_1 := bF BK278.out 1
      have hfz12_2 := bF BK278.out 2
      have hfz12_3 := bF BK278.out 3
      have hfz12_4 := bF BK278.out 4
      have hfz12_5 := bF BK278.out 5
      go_wp2_with (first | ((with_reducible refine gate_callee (f := 28) rfl ?_); refine goesL_ (some 8) rfl rfl Try.func28 (by kernel_rfl) rfl #[.agg #[.int .i64 a0_0, .slice A0_1 l0_1.length c0_1, .slice A0_2 l0_2.length c0_2, .slice A0_3 l0_3.length c0_3, .int .u32 a0_4, .int .u32 a0_5]] rfl (by (try simp only [List.map_toArray, List.map_cons, List.map_nil]); first | done | rfl | (simp only [List.length_drop, List.length_take]; rfl)) ?_; (with_reducible refine (dragomanref11_Great.calls k a0_0 _ _ l0_1 _ _ l0_2 _ _ l0_3 a0_4 a0_5 true _ ?side1 ?side2 ?side3 ?side4 ?side5 ?side6 A9.out).mono ?_); (case side1 => repeat (first | exact (Kd.C_below HR0_1.out HB.out) | (with_reducible refine Kd.C_alloc ?_ _) | (with_reducible refine Kd.C_drewN ?_ _) | (with_reducible refine Kd.C_drew ?_))); (case side2 => exact HC0_1.out); (case side3 => repeat (first | exact (Kd.C_below HR0_2.out HB.out) | (with_reducible refine Kd.C_alloc ?_ _) | (with_reducible refine Kd.C_drewN ?_ _) | (with_reducible refine Kd.C_drew ?_))); (case side4 => exact HC0_2.out); (case side5 => repeat (first | exact (Kd.C_below HR0_3.out HB.out) | (with_reducible refine Kd.C_alloc ?_ _) | (with_reducible refine Kd.C_drewN ?_ _) | (with_reducible refine Kd.C_drew ?_))); (case side6 => exact HC0_3.out); rintro e w13 ⟨rfl, hb⟩; refine ⟨_, rfl, ?_⟩; have n0_ := aM (blk_below (g := gb278) (o := .cells #[.int .i64 a0_0, .slice A0_1 l0_1.length c0_1, .slice A0_2 l0_2.length c0_2, .slice A0_3 l0_3.length c0_3, .int .u32 a0_4, .int .u32 a0_5] 46 (0, 0)) (by (with_reducible repeat (first | apply bkN | apply bkD | apply bkA)); exact BK278.out) hb); have n1_ := aM (blk_below (g := gb279) (o := .cells #[.int .u32 a1_0, .int .i64 a1_1, .slice A1_2 l1_2.length c1_2, .slice A1_3 l1_3.length c1_3, .int .u32 a1_4, .int .u32 a1_5, .int .i64 a1_6, .int .u32 a1_7] 50 (0, 0)) (by (with_reducible repeat (first | apply bkN | apply bkD | apply bkA)); exact BK279.out) hb); have n2_ := aM (below_step (by repeat (first | (with_reducible first | exact HB.out | apply blA | apply blN | apply blD | refine bS ?_ GE278.out | refine bS ?_ GE279.out) | exact HB.out)) hb); clear BK278; clear BK279; clear HB; have BK278 := n0_; have BK279 := n1_; have HB := n2_; clear n0_ n1_ n2_; (try clear hb); (try clear hb2); (try clear hk); (try clear hi)))
      go_meet
      case rel => exact ⟨_, (true), (by first | rfl | (simp; done) | (simp [*]; done)), H', ⟨by first | omega | exact Nat.le_refl _⟩, ⟨by (with_reducible repeat (first | apply bkN | apply bkD | apply bkA)); exact BK278.out⟩, ⟨by (with_reducible repeat (first | apply bkN | apply bkD | apply bkA)); exact BK279.out⟩, ⟨by repeat (first | (with_reducible first | exact HB.out | apply blA | apply blN | apply blD | refine bS ?_ GE278.out | refine bS ?_ GE279.out) | exact HB.out)⟩⟩
    · replace c10 := Bool.eq_false_iff.mpr c10
      subst c10
      have H1 : ((r3_Great.f a1_0 a1_1 l1_2 l1_3 a1_4 a1_5 a1_6 a1_7).bind fun t282 => (dragomanlaw11_CondLists.j0 k t282 a0_0 l0_1 l0_2 l0_3 a0_4 a0_5 a1_0 a1_1 l1_2 l1_3 a1_4 a1_5 a1_6 a1_7)) = some r := by rw [if_neg (show ¬ (false = true) by decide)] at H; exact H
      clear H
      have H := H1
      clear H1
      replace H := Option.bind_eq_some_iff.mp H
      obtain ⟨t282, A140, H⟩ := H
      replace H : (dragomanlaw11_CondLists.j0 k t282 a0_0 l0_1 l0_2 l0_3 a0_4 a0_5 a1_0 a1_1 l1_2 l1_3 a1_4 a1_5 a1_6 a1_7) = some r := H
      have A14 := aM A140
      clear A140
      have H' := aM H
      clear H
      have hnb15 := NB278_279.out
      have hnc15 := NB279_278.out
      have hcz16_0 : w8.cell? ⟨gb278, 0, none⟩ = some (.int .i64 a0_0) := (blk_cell BK278.out 0).trans rfl
      have hcz16_1 : w8.cell? ⟨gb278, 1, none⟩ = some (.slice A0_1 l0_1.length c0_1) := (blk_cell BK278.out 1).trans rfl
      have hcz16_2 : w8.cell? ⟨gb278, 2, none⟩ = some (.slice A0_2 l0_2.length c0_2) := (blk_cell BK278.out 2).trans rfl
      have hcz16_3 : w8.cell? ⟨gb278, 3, none⟩ = some (.slice A0_3 l0_3.length c0_3) := (blk_cell BK278.out 3).trans rfl
      have hcz16_4 : w8.cell? ⟨gb278, 4, none⟩ = some (.int .u32 a0_4) := (blk_cell BK278.out 4).trans rfl
      have hcz16_5 : w8.cell? ⟨gb278, 5, none⟩ = some (.int .u32 a0_5) := (blk_cell BK278.out 5).trans rfl
      have hfz16_0 := bF BK278.out 0
      have hfz16_1 := bF BK278.out 1
      have hfz16_2 := bF BK278.out 2
      have hfz16_3 := bF BK278.out 3
      have hfz16_4 := bF BK278.out 4
      have hfz16_5 := bF BK278.out 5
      go_wp2_with (first | ((with_reducible refine gate_callee (f := 28) rfl ?_); refine goesL_ (some 8) rfl rfl Try.func28 (by kernel_rfl) rfl #[.agg #[.int .i64 a0_0, .slice A0_1 l0_1.length c0_1, .slice A0_2 l0_2.length c0_2, .slice A0_3 l0_3.length c0_3, .int .u32 a0_4, .int .u32 a0_5]] rfl (by (try simp only [List.map_toArray, List.map_cons, List.map_nil]); first | done | rfl | (simp only [List.length_drop, List.length_take]; rfl)) ?_; (with_reducible refine (dragomanref11_Great.calls k a0_0 _ _ l0_1 _ _ l0_2 _ _ l0_3 a0_4 a0_5 false _ ?side1 ?side2 ?side3 ?side4 ?side5 ?side6 A9.out).mono ?_); (case side1 => repeat (first | exact (Kd.C_below HR0_1.out HB.out) | (with_reducible refine Kd.C_alloc ?_ _) | (with_reducible refine Kd.C_drewN ?_ _) | (with_reducible refine Kd.C_drew ?_))); (case side2 => exact HC0_1.out); (case side3 => repeat (first | exact (Kd.C_below HR0_2.out HB.out) | (with_reducible refine Kd.C_alloc ?_ _) | (with_reducible refine Kd.C_drewN ?_ _) | (with_reducible refine Kd.C_drew ?_))); (case side4 => exact HC0_2.out); (case side5 => repeat (first | exact (Kd.C_below HR0_3.out HB.out) | (with_reducible refine Kd.C_alloc ?_ _) | (with_reducible refine Kd.C_drewN ?_ _) | (with_reducible refine Kd.C_drew ?_))); (case side6 => exact HC0_3.out); rintro e w17 ⟨rfl, hb⟩; refine ⟨_, rfl, ?_⟩; have n0_ := aM (blk_below (g := gb278) (o := .cells #[.int .i64 a0_0, .slice A0_1 l0_1.length c0_1, .slice A0_2 l0_2.length c0_2, .slice A0_3 l0_3.length c0_3, .int .u32 a0_4, .int .u32 a0_5] 46 (0, 0)) (by (with_reducible repeat (first | apply bkN | apply bkD | apply bkA)); exact BK278.out) hb); have n1_ := aM (blk_below (g := gb279) (o := .cells #[.int .u32 a1_0, .int .i64 a1_1, .slice A1_2 l1_2.length c1_2, .slice A1_3 l1_3.length c1_3, .int .u32 a1_4, .int .u32 a1_5, .int .i64 a1_6, .int .u32 a1_7] 50 (0, 0)) (by (with_reducible repeat (first | apply bkN | apply bkD | apply bkA)); exact BK279.out) hb); have n2_ := aM (below_step (by repeat (first | (with_reducible first | exact HB.out | apply blA | apply blN | apply blD | refine bS ?_ GE278.out | refine bS ?_ GE279.out) | exact HB.out)) hb); clear BK278; clear BK279; clear HB; have BK278 := n0_; have BK279 := n1_; have HB := n2_; clear n0_ n1_ n2_; (try clear hb); (try clear hb2); (try clear hk); (try clear hi); have hcz18_0 : w17.cell? ⟨gb279, 0, none⟩ = some (.int .u32 a1_0) := (blk_cell BK279.out 0).trans rfl; have hcz18_1 : w17.cell? ⟨gb279, 1, none⟩ = some (.int .i64 a1_1) := (blk_cell BK279.out 1).trans rfl; have hcz18_2 : w17.cell? ⟨gb279, 2, none⟩ = some (.slice A1_2 l1_2.length c1_2) := (blk_cell BK279.out 2).trans rfl; have hcz18_3 : w17.cell? ⟨gb279, 3, none⟩ = some (.slice A1_3 l1_3.length c1_3) := (blk_cell BK279.out 3).trans rfl; have hcz18_4 : w17.cell? ⟨gb279, 4, none⟩ = some (.int .u32 a1_4) := (blk_cell BK279.out 4).trans rfl; have hcz18_5 : w17.cell? ⟨gb279, 5, none⟩ = some (.int .u32 a1_5) := (blk_cell BK279.out 5).trans rfl; have hcz18_6 : w17.cell? ⟨gb279, 6, none⟩ = some (.int .i64 a1_6) := (blk_cell BK279.out 6).trans rfl; have hcz18_7 : w17.cell? ⟨gb279, 7, none⟩ = some (.int .u32 a1_7) := (blk_cell BK279.out 7).trans rfl; have hfz18_0 := bF BK279.out 0; have hfz18_1 := bF BK279.out 1; have hfz18_2 := bF BK279.out 2; have hfz18_3 := bF BK279.out 3; have hfz18_4 := bF BK279.out 4; have hfz18_5 := bF BK279.out 5; have hfz18_6 := bF BK279.out 6; have hfz18_7 := bF BK279.out 7) | (go_at_call 29; (with_reducible refine (r3_Great.calls a1_0 a1_1 _ _ l1_2 _ _ l1_3 a1_4 a1_5 a1_6 a1_7 t282 _ ?side1 ?side2 ?side3 ?side4 A14.out).mono ?_); (case side1 => repeat (first | exact (Kd.C_below HR1_2.out HB.out) | (with_reducible refine Kd.C_alloc ?_ _) | (with_reducible refine Kd.C_drewN ?_ _) | (with_reducible refine Kd.C_drew ?_))); (case side2 => exact HC1_2.out); (case side3 => repeat (first | exact (Kd.C_below HR1_3.out HB.out) | (with_reducible refine Kd.C_alloc ?_ _) | (with_reducible refine Kd.C_drewN ?_ _) | (with_reducible refine Kd.C_drew ?_))); (case side4 => exact HC1_3.out); rintro e w19 ⟨rfl, hb⟩; have n0_ := aM (blk_below (g := gb278) (o := .cells #[.int .i64 a0_0, .slice A0_1 l0_1.length c0_1, .slice A0_2 l0_2.length c0_2, .slice A0_3 l0_3.length c0_3, .int .u32 a0_4, .int .u32 a0_5] 46 (0, 0)) (by (with_reducible repeat (first | apply bkN | apply bkD | apply bkA)); exact BK278.out) hb); have n1_ := aM (blk_below (g := gb279) (o := .cells #[.int .u32 a1_0, .int .i64 a1_1, .slice A1_2 l1_2.length c1_2, .slice A1_3 l1_3.length c1_3, .int .u32 a1_4, .int .u32 a1_5, .int .i64 a1_6, .int .u32 a1_7] 50 (0, 0)) (by (with_reducible repeat (first | apply bkN | apply bkD | apply bkA)); exact BK279.out) hb); have n2_ := aM (below_step (by repeat (first | (with_reducible first | exact HB.out | apply blA | apply blN | apply blD | refine bS ?_ GE278.out | refine bS ?_ GE279.out) | exact HB.out)) hb); clear BK278; clear BK279; clear HB; have BK278 := n0_; have BK279 := n1_; have HB := n2_; clear n0_ n1_ n2_; (try clear hb); (try clear hb2); (try clear hk); (try clear hi)))
      go_meet
      case rel => exact ⟨_, (t282), (by first | rfl | (simp; done) | (simp [*]; done)), H', ⟨by first | omega | exact Nat.le_refl _⟩, ⟨by (with_reducible repeat (first | apply bkN | apply bkD | apply bkA)); exact BK278.out⟩, ⟨by (with_reducible repeat (first | apply bkN | apply bkD | apply bkA)); exact BK279.out⟩, ⟨by repeat (first | (with_reducible first | exact HB.out | apply blA | apply blN | apply blD | refine bS ?_ GE278.out | refine bS ?_ GE279.out) | exact HB.out)⟩⟩
   case rest =>
    clear HC5
    obtain ⟨kq, x12_4, rfl, HA, HJ4, BK278, BK279, HB⟩ := hcut
    cases kq with
    | zero => exact absurd HA.out (by simp [dragomanlaw11_CondLists.j0])
    | succ kj4 =>
     have H := HA.out
     clear HA
     simp only [dragomanlaw11_CondLists.j0] at H
     by_cases c20 : x12_4 = true
     · subst c20
       have H1 : (some true) = some r := by rw [if_pos rfl] at H; exact H
       clear H
       have H := H1
       clear H1
       obtain rfl := Option.some.inj H
       go_wp2
       first | go_ret | refine ⟨_, results_tmp rfl _ _ _, ?_⟩
       exact ⟨by first | rfl | (simp [errW_none, errW_some] <;> rfl) | (simp [*, errW_none, errW_some] <;> rfl), by repeat (first | (with_reducible first | exact HB.out | apply blA | apply blN | apply blD | refine bS ?_ GE278.out | refine bS ?_ GE279.out) | exact HB.out)⟩
     · replace c20 := Bool.eq_false_iff.mpr c20
       subst c20
       have H1 : ((cond_TakesPath.f kj4 l0_2 l1_2).bind fun t283 => ((dragomanref11_TakesPath.f kj4 l0_2 l1_2).bind fun t284 => (if (t283 == t284) = true then ((cond_TakesComms.f l0_3 l1_3).bind fun t285 => ((dragomanref11_TakesComms.f kj4 l0_3 l1_3).bind fun t286 => (some (t285 == t286)))) else (none)))) = some r := by rw [if_neg (show ¬ (false = true) by decide)] at H; exact H
       clear H
       have H := H1
       clear H1
       replace H := Option.bind_eq_some_iff.mp H
       obtain ⟨t283, A210, H⟩ := H
       replace H : ((dragomanref11_TakesPath.f kj4 l0_2 l1_2).bind fun t284 => (if (t283 == t284) = true then ((cond_TakesComms.f l0_3 l1_3).bind fun t285 => ((dragomanref11_TakesComms.f kj4 l0_3 l1_3).bind fun t286 => (some (t285 == t286)))) else (none))) = some r := H
       have A21 := aM A210
       clear A210
       replace H := Option.bind_eq_some_iff.mp H
       obtain ⟨t284, A220, H⟩ := H
       replace H : (if (t283 == t284) = true then ((cond_TakesComms.f l0_3 l1_3).bind fun t285 => ((dragomanref11_TakesComms.f kj4 l0_3 l1_3).bind fun t286 => (some (t285 == t286)))) else (none)) = some r := H
       have A22 := aM A220
       clear A220
       by_cases c23 : (t283 == t284) = true
       · rw [if_pos c23] at H
         have c23b0 : (t283 == t284) = true := c23
         (try (have c23b1 : decide (t283 = t284) = true := by simpa using c23))
         (try (have c23b2 : (t283 == t284) = true := by simpa using c23))
         clear c23
         replace H := Option.bind_eq_some_iff.mp H
         obtain ⟨t285, A240, H⟩ := H
         replace H : ((dragomanref11_TakesComms.f kj4 l0_3 l1_3).bind fun t286 => (some (t285 == t286))) = some r := H
         have A24 := aM A240
         clear A240
         replace H := Option.bind_eq_some_iff.mp H
         obtain ⟨t286, A250, H⟩ := H
         replace H : (some (t285 == t286)) = some r := H
         have A25 := aM A250
         clear A250
         obtain rfl := Option.some.inj H
         try go_wp2
         have n0_ := aM (blk_drew BK278.out)
         have n1_ := aM (blk_drew BK279.out)
         have n2_ := aM (below_drew1 HB.out)
         clear BK278
         clear BK279
         clear HB
         have BK278 := n0_
         have BK279 := n1_
         have HB := n2_
         clear n0_ n1_ n2_
         refine start_ (n := 25) (S := fun w' => w'.cell? ⟨gb278, 0, none⟩ = some (.int .i64 a0_0) ∧ w'.cell? ⟨gb278, 1, none⟩ = some (.slice A0_1 l0_1.length c0_1) ∧ w'.cell? ⟨gb278, 2, none⟩ = some (.slice A0_2 l0_2.length c0_2) ∧ w'.cell? ⟨gb278, 3, none⟩ = some (.slice A0_3 l0_3.length c0_3) ∧ w'.cell? ⟨gb278, 4, none⟩ = some (.int .u32 a0_4) ∧ w'.cell? ⟨gb278, 5, none⟩ = some (.int .u32 a0_5) ∧ w'.cell? ⟨gb279, 0, none⟩ = some (.int .u32 a1_0) ∧ w'.cell? ⟨gb279, 1, none⟩ = some (.int .i64 a1_1) ∧ w'.cell? ⟨gb279, 2, none⟩ = some (.slice A1_2 l1_2.length c1_2) ∧ w'.cell? ⟨gb279, 3, none⟩ = some (.slice A1_3 l1_3.length c1_3) ∧ w'.cell? ⟨gb279, 4, none⟩ = some (.int .u32 a1_4) ∧ w'.cell? ⟨gb279, 5, none⟩ = some (.int .u32 a1_5) ∧ w'.cell? ⟨gb279, 6, none⟩ = some (.int .i64 a1_6) ∧ w'.cell? ⟨gb279, 7, none⟩ = some (.int .u32 a1_7)) (ds := []) #[false, false, false, false, false, false, false, false, false, false, false, false, false, false, false, false, false, false, false, false, false, false, false, false, false] (by kernel_rfl) rfl rfl ⟨(blk_cell BK278.out 0).trans rfl, (blk_cell BK278.out 1).trans rfl, (blk_cell BK278.out 2).trans rfl, (blk_cell BK278.out 3).trans rfl, (blk_cell BK278.out 4).trans rfl, (blk_cell BK278.out 5).trans rfl, (blk_cell BK279.out 0).trans rfl, (blk_cell BK279.out 1).trans rfl, (blk_cell BK279.out 2).trans rfl, (blk_cell BK279.out 3).trans rfl, (blk_cell BK279.out 4).trans rfl, (blk_cell BK279.out 5).trans rfl, (blk_cell BK279.out 6).trans rfl, (blk_cell BK279.out 7).trans rfl⟩ (fun hHeld => ?_); refine with_tabW dragomanlaw11_CondLists.tab5 dragomanlaw11_CondLists.bits5 (fun HT_ HW_ => ?_)
         generalize wc.drew = w26 at BK278 BK279 HB hHeld ⊢
         refine pure_ (i := 0) (N := some 13) (v := ?_) (a' := ?_) #[true, false, false, false, false, false, false, false, false, false, false, false, false, false, false, false, false, false, false, false, false, false, false, false, false] rfl rfl (any_of HT_.out (by kernel_rfl)) (fun _ _ _ h => h) (Or.inl ⟨by rfl, ?_⟩) ?_ ?_
         rotate_left
         · intro w'
           go_simp
           with_reducible rfl
         rotate_left
         · simp only [Act.put, List.setIfInBounds_toArray, List.set_cons_zero, List.set_cons_succ, i64_w, i32_w]
           rfl
         refine pure_ (i := 2) (N := some 15) (v := ?_) (a' := ?_) #[true, false, true, false, false, false, false, false, false, false, false, false, false, false, false, false, false, false, false, false, false, false, false, false, false] rfl rfl (any_of HT_.out (by kernel_rfl)) (fun _ _ _ h => h) (Or.inl ⟨by rfl, ?_⟩) ?_ ?_
         rotate_left
         · intro w'
           go_simp
           with_reducible rfl
         rotate_left
         · simp only [Act.put, List.setIfInBounds_toArray, List.set_cons_zero, List.set_cons_succ, i64_w, i32_w]
           rfl
         refine pure_ (i := 5) (N := some 18) (v := ?_) (a' := ?_) #[true, false, true, false, false, true, false, false, false, false, false, false, false, false, false, false, false, false, false, false, false, false, false, false, false] rfl rfl (any_of HT_.out (by kernel_rfl)) (fun _ _ _ h => h) (Or.inl ⟨by rfl, ?_⟩) ?_ ?_
         rotate_left
         · intro w'
           go_simp
           with_reducible rfl
         rotate_left
         · simp only [Act.put, List.setIfInBounds_toArray, List.set_cons_zero, List.set_cons_succ, i64_w, i32_w]
           rfl
         refine pure_ (i := 7) (N := some 20) (v := ?_) (a' := ?_) #[true, false, true, false, false, true, false, true, false, false, false, false, false, false, false, false, false, false, false, false, false, false, false, false, false] rfl rfl (any_of HT_.out (by kernel_rfl)) (fun _ _ _ h => h) (Or.inl ⟨by rfl, ?_⟩) ?_ ?_
         rotate_left
         · intro w'
           go_simp
           with_reducible rfl
         rotate_left
         · simp only [Act.put, List.setIfInBounds_toArray, List.set_cons_zero, List.set_cons_succ, i64_w, i32_w]
           rfl
         refine take_ (i := 1) (N := some 14) (v := ?_) (a' := ?_) #[true, true, true, false, false, true, false, true, false, false, false, false, false, false, false, false, false, false, false, false, false, false, false, false, false] rfl rfl (take_ofW HT_.out HW_.out (by kernel_rfl)) (fun _ _ _ h => h) (Or.inl ⟨by rfl, ?_⟩) hHeld ?_ ?_
         rotate_left
         · rintro w' ⟨s0, s1, s2, s3, s4, s5, s6, s7, s8, s9, s10, s11, s12, s13⟩
           go_simp
           with_reducible rfl
         rotate_left
         · simp only [Act.put, List.setIfInBounds_toArray, List.set_cons_zero, List.set_cons_succ, i64_w, i32_w]
           rfl
         refine take_ (i := 3) (N := some 16) (v := ?_) (a' := ?_) #[true, true, true, true, false, true, false, true, false, false, false, false, false, false, false, false, false, false, false, false, false, false, false, false, false] rfl rfl (take_ofW HT_.out HW_.out (by kernel_rfl)) (fun _ _ _ h => h) (Or.inl ⟨by rfl, ?_⟩) hHeld ?_ ?_
         rotate_left
         · rintro w' ⟨s0, s1, s2, s3, s4, s5, s6, s7, s8, s9, s10, s11, s12, s13⟩
           go_simp
           with_reducible rfl
         rotate_left
         · simp only [Act.put, List.setIfInBounds_toArray, List.set_cons_zero, List.set_cons_succ, i64_w, i32_w]
           rfl
         refine take_ (i := 6) (N := some 19) (v := ?_) (a' := ?_) #[true, true, true, true, false, true, true, true, false, false, false, false, false, false, false, false, false, false, false, false, false, false, false, false, false] rfl rfl (take_ofW HT_.out HW_.out (by kernel_rfl)) (fun _ _ _ h => h) (Or.inl ⟨by rfl, ?_⟩) hHeld ?_ ?_
         rotate_left
         · rintro w' ⟨s0, s1, s2, s3, s4, s5, s6, s7, s8, s9, s10, s11, s12, s13⟩
           go_simp
           with_reducible rfl
         rotate_left
         · simp only [Act.put, List.setIfInBounds_toArray, List.set_cons_zero, List.set_cons_succ, i64_w, i32_w]
           rfl
         refine take_ (i := 8) (N := some 21) (v := ?_) (a' := ?_) #[true, true, true, true, false, true, true, true, true, false, false, false, false, false, false, false, false, false, false, false, false, false, false, false, false] rfl rfl (take_ofW HT_.out HW_.out (by kernel_rfl)) (fun _ _ _ h => h) (Or.inl ⟨by rfl, ?_⟩) hHeld ?_ ?_
         rotate_left
         · rintro w' ⟨s0, s1, s2, s3, s4, s5, s6, s7, s8, s9, s10, s11, s12, s13⟩
           go_simp
           with_reducible rfl
         rotate_left
         · simp only [Act.put, List.setIfInBounds_toArray, List.set_cons_zero, List.set_cons_succ, i64_w, i32_w]
           rfl
         refine one_ (i := 4) (N := some 17) #[true, true, true, true, true, true, true, true, true, false, false, false, false, false, false, false, false, false, false, false, false, false, false, false, false] rfl rfl (one_of HT_.out (by kernel_rfl)) (by decide) (fun K hK => ?_)
         refine goes_ Try.func38 (by kernel_rfl) rfl #[.slice A0_2 l0_2.length c0_2, .slice A1_2 l1_2.length c1_2] (by rfl) rfl rfl (by (try simp only [List.map_toArray, List.map_cons, List.map_nil]); first | done | rfl | (simp only [List.length_drop, List.length_take]; rfl)) ?_
         with_reducible refine (cond_TakesPath.calls kj4 _ _ l0_2 _ _ l1_2 t283 _ ?side1 ?side2 ?side3 ?side4 A21.out).mono ?_
         (case side1 => repeat (first | exact (Kd.C_below HR0_2.out HB.out) | (with_reducible refine Kd.C_alloc ?_ _) | (with_reducible refine Kd.C_drewN ?_ _) | (with_reducible refine Kd.C_drew ?_)))
         (case side2 => exact HC0_2.out)
         (case side3 => repeat (first | exact (Kd.C_below HR1_2.out HB.out) | (with_reducible refine Kd.C_alloc ?_ _) | (with_reducible refine Kd.C_drewN ?_ _) | (with_reducible refine Kd.C_drew ?_)))
         (case side4 => exact HC1_2.out)
         rintro e w27 ⟨rfl, hb⟩
         refine ⟨_, rfl, ?_⟩
         have n0_ := aM (blk_below (g := gb278) (o := .cells #[.int .i64 a0_0, .slice A0_1 l0_1.length c0_1, .slice A0_2 l0_2.length c0_2, .slice A0_3 l0_3.length c0_3, .int .u32 a0_4, .int .u32 a0_5] 46 (0, 0)) (by (with_reducible repeat (first | apply bkN | apply bkD | apply bkA)); exact BK278.out) hb)
         have n1_ := aM (blk_below (g := gb279) (o := .cells #[.int .u32 a1_0, .int .i64 a1_1, .slice A1_2 l1_2.length c1_2, .slice A1_3 l1_3.length c1_3, .int .u32 a1_4, .int .u32 a1_5, .int .i64 a1_6, .int .u32 a1_7] 50 (0, 0)) (by (with_reducible repeat (first | apply bkN | apply bkD | apply bkA)); exact BK279.out) hb)
         have n2_ := aM (below_step (by repeat (first | (with_reducible first | exact HB.out | apply blA | apply blN | apply blD | refine bS ?_ GE278.out | refine bS ?_ GE279.out) | exact HB.out)) hb)
         clear BK278
         clear BK279
         clear HB
         have BK278 := n0_
         have BK279 := n1_
         have HB := n2_
         clear n0_ n1_ n2_
         (try clear hb)
         (try clear hb2)
         (try clear hk)
         (try clear hi)
         refine hK.out _ _ ⟨(blk_cell BK278.out 0).trans rfl, (blk_cell BK278.out 1).trans rfl, (blk_cell BK278.out 2).trans rfl, (blk_cell BK278.out 3).trans rfl, (blk_cell BK278.out 4).trans rfl, (blk_cell BK278.out 5).trans rfl, (blk_cell BK279.out 0).trans rfl, (blk_cell BK279.out 1).trans rfl, (blk_cell BK279.out 2).trans rfl, (blk_cell BK279.out 3).trans rfl, (blk_cell BK279.out 4).trans rfl, (blk_cell BK279.out 5).trans rfl, (blk_cell BK279.out 6).trans rfl, (blk_cell BK279.out 7).trans rfl⟩ (fun hHeld => ?_)
         clear hK K
         refine norm_ (a' := ?_) ?_ ?_
         rotate_left
         · show Act.put _ (some 17) _ = _
           simp only [Act.put, List.setIfInBounds_toArray, List.set_cons_zero, List.set_cons_succ, i64_w, i32_w]
           rfl
         refine one_ (i := 9) (N := some 22) #[true, true, true, true, true, true, true, true, true, true, false, false, false, false, false, false, false, false, false, false, false, false, false, false, false] rfl rfl (one_of HT_.out (by kernel_rfl)) (by decide) (fun K hK => ?_)
         refine goes_ Try.func39 (by kernel_rfl) rfl #[.slice A0_2 l0_2.length c0_2, .slice A1_2 l1_2.length c1_2] (by rfl) rfl rfl (by (try simp only [List.map_toArray, List.map_cons, List.map_nil]); first | done | rfl | (simp only [List.length_drop, List.length_take]; rfl)) ?_
         with_reducible refine (dragomanref11_TakesPath.calls kj4 _ _ l0_2 _ _ l1_2 t284 _ ?side1 ?side2 ?side3 ?side4 A22.out).mono ?_
         (case side1 => repeat (first | exact (Kd.C_below HR0_2.out HB.out) | (with_reducible refine Kd.C_alloc ?_ _) | (with_reducible refine Kd.C_drewN ?_ _) | (with_reducible refine Kd.C_drew ?_)))
         (case side2 => exact HC0_2.out)
         (case side3 => repeat (first | exact (Kd.C_below HR1_2.out HB.out) | (with_reducible refine Kd.C_alloc ?_ _) | (with_reducible refine Kd.C_drewN ?_ _) | (with_reducible refine Kd.C_drew ?_)))
         (case side4 => exact HC1_2.out)
         rintro e w28 ⟨rfl, hb⟩
         refine ⟨_, rfl, ?_⟩
         have n0_ := aM (blk_below (g := gb278) (o := .cells #[.int .i64 a0_0, .slice A0_1 l0_1.length c0_1, .slice A0_2 l0_2.length c0_2, .slice A0_3 l0_3.length c0_3, .int .u32 a0_4, .int .u32 a0_5] 46 (0, 0)) (by (with_reducible repeat (first | apply bkN | apply bkD | apply bkA)); exact BK278.out) hb)
         have n1_ := aM (blk_below (g := gb279) (o := .cells #[.int .u32 a1_0, .int .i64 a1_1, .slice A1_2 l1_2.length c1_2, .slice A1_3 l1_3.length c1_3, .int .u32 a1_4, .int .u32 a1_5, .int .i64 a1_6, .int .u32 a1_7] 50 (0, 0)) (by (with_reducible repeat (first | apply bkN | apply bkD | apply bkA)); exact BK279.out) hb)
         have n2_ := aM (below_step (by repeat (first | (with_reducible first | exact HB.out | apply blA | apply blN | apply blD | refine bS ?_ GE278.out | refine bS ?_ GE279.out) | exact HB.out)) hb)
         clear BK278
         clear BK279
         clear HB
         have BK278 := n0_
         have BK279 := n1_
         have HB := n2_
         clear n0_ n1_ n2_
         (try clear hb)
         (try clear hb2)
         (try clear hk)
         (try clear hi)
         refine hK.out _ _ ⟨(blk_cell BK278.out 0).trans rfl, (blk_cell BK278.out 1).trans rfl, (blk_cell BK278.out 2).trans rfl, (blk_cell BK278.out 3).trans rfl, (blk_cell BK278.out 4).trans rfl, (blk_cell BK278.out 5).trans rfl, (blk_cell BK279.out 0).trans rfl, (blk_cell BK279.out 1).trans rfl, (blk_cell BK279.out 2).trans rfl, (blk_cell BK279.out 3).trans rfl, (blk_cell BK279.out 4).trans rfl, (blk_cell BK279.out 5).trans rfl, (blk_cell BK279.out 6).trans rfl, (blk_cell BK279.out 7).trans rfl⟩ (fun hHeld => ?_)
         clear hK K
         refine norm_ (a' := ?_) ?_ ?_
         rotate_left
         · show Act.put _ (some 22) _ = _
           simp only [Act.put, List.setIfInBounds_toArray, List.set_cons_zero, List.set_cons_succ, i64_w, i32_w]
           rfl
         refine pure_ (i := 10) (N := some 23) (v := ?_) (a' := ?_) #[true, true, true, true, true, true, true, true, true, true, true, false, false, false, false, false, false, false, false, false, false, false, false, false, false] rfl rfl (any_of HT_.out (by kernel_rfl)) (fun _ _ _ h => h) (Or.inl ⟨by rfl, ?_⟩) ?_ ?_
         rotate_left
         · intro w'
           go_simp
           with_reducible rfl
         rotate_left
         · simp only [Act.put, List.setIfInBounds_toArray, List.set_cons_zero, List.set_cons_succ, i64_w, i32_w]
           rfl
         refine pure_ (i := 11) (N := some 24) (v := ?_) (a' := ?_) #[true, true, true, true, true, true, true, true, true, true, true, true, false, false, false, false, false, false, false, false, false, false, false, false, false] rfl rfl (any_of HT_.out (by kernel_rfl)) (fun _ _ _ h => h) (Or.inl ⟨by rfl, ?_⟩) ?_ ?_
         rotate_left
         · intro w'
           go_simp
           with_reducible rfl
         rotate_left
         · simp only [Act.put, List.setIfInBounds_toArray, List.set_cons_zero, List.set_cons_succ, i64_w, i32_w]
           rfl
         refine pure_ (i := 12) (N := some 25) (v := ?_) (a' := ?_) #[true, true, true, true, true, true, true, true, true, true, true, true, true, false, false, false, false, false, false, false, false, false, false, false, false] rfl rfl (any_of HT_.out (by kernel_rfl)) (fun _ _ _ h => h) (Or.inl ⟨by rfl, ?_⟩) ?_ ?_
         rotate_left
         · intro w'
           go_simp
           with_reducible rfl
         rotate_left
         · simp only [Act.put, List.setIfInBounds_toArray, List.set_cons_zero, List.set_cons_succ, i64_w, i32_w]
           rfl
         refine pure_ (i := 14) (N := some 27) (v := ?_) (a' := ?_) #[true, true, true, true, true, true, true, true, true, true, true, true, true, false, true, false, false, false, false, false, false, false, false, false, false] rfl rfl (any_of HT_.out (by kernel_rfl)) (fun _ _ _ h => h) (Or.inl ⟨by rfl, ?_⟩) ?_ ?_
         rotate_left
         · intro w'
           go_simp
           with_reducible rfl
         rotate_left
         · simp only [Act.put, List.setIfInBounds_toArray, List.set_cons_zero, List.set_cons_succ, i64_w, i32_w]
           rfl
         refine pure_ (i := 17) (N := some 30) (v := ?_) (a' := ?_) #[true, true, true, true, true, true, true, true, true, true, true, true, true, false, true, false, false, true, false, false, false, false, false, false, false] rfl rfl (any_of HT_.out (by kernel_rfl)) (fun _ _ _ h => h) (Or.inl ⟨by rfl, ?_⟩) ?_ ?_
         rotate_left
         · intro w'
           go_simp
           with_reducible rfl
         rotate_left
         · simp only [Act.put, List.setIfInBounds_toArray, List.set_cons_zero, List.set_cons_succ, i64_w, i32_w]
           rfl
         refine pure_ (i := 19) (N := some 32) (v := ?_) (a' := ?_) #[true, true, true, true, true, true, true, true, true, true, true, true, true, false, true, false, false, true, false, true, false, false, false, false, false] rfl rfl (any_of HT_.out (by kernel_rfl)) (fun _ _ _ h => h) (Or.inl ⟨by rfl, ?_⟩) ?_ ?_
         rotate_left
         · intro w'
           go_simp
           with_reducible rfl
         rotate_left
         · simp only [Act.put, List.setIfInBounds_toArray, List.set_cons_zero, List.set_cons_succ, i64_w, i32_w]
           rfl
         refine take_ (i := 13) (N := some 26) (v := ?_) (a' := ?_) #[true, true, true, true, true, true, true, true, true, true, true, true, true, true, true, false, false, true, false, true, false, false, false, false, false] rfl rfl (take_ofW HT_.out HW_.out (by kernel_rfl)) (fun _ _ _ h => h) (Or.inl ⟨by rfl, ?_⟩) hHeld ?_ ?_
         rotate_left
         · rintro w' ⟨s0, s1, s2, s3, s4, s5, s6, s7, s8, s9, s10, s11, s12, s13⟩
           go_simp
           with_reducible rfl
         rotate_left
         · simp only [Act.put, List.setIfInBounds_toArray, List.set_cons_zero, List.set_cons_succ, i64_w, i32_w]
           rfl
         refine take_ (i := 15) (N := some 28) (v := ?_) (a' := ?_) #[true, true, true, true, true, true, true, true, true, true, true, true, true, true, true, true, false, true, false, true, false, false, false, false, false] rfl rfl (take_ofW HT_.out HW_.out (by kernel_rfl)) (fun _ _ _ h => h) (Or.inl ⟨by rfl, ?_⟩) hHeld ?_ ?_
         rotate_left
         · rintro w' ⟨s0, s1, s2, s3, s4, s5, s6, s7, s8, s9, s10, s11, s12, s13⟩
           go_simp
           with_reducible rfl
         rotate_left
         · simp only [Act.put, List.setIfInBounds_toArray, List.set_cons_zero, List.set_cons_succ, i64_w, i32_w]
           rfl
         refine take_ (i := 18) (N := some 31) (v := ?_) (a' := ?_) #[true, true, true, true, true, true, true, true, true, true, true, true, true, true, true, true, false, true, true, true, false, false, false, false, false] rfl rfl (take_ofW HT_.out HW_.out (by kernel_rfl)) (fun _ _ _ h => h) (Or.inl ⟨by rfl, ?_⟩) hHeld ?_ ?_
         rotate_left
         · rintro w' ⟨s0, s1, s2, s3, s4, s5, s6, s7, s8, s9, s10, s11, s12, s13⟩
           go_simp
           with_reducible rfl
         rotate_left
         · simp only [Act.put, List.setIfInBounds_toArray, List.set_cons_zero, List.set_cons_succ, i64_w, i32_w]
           rfl
         refine take_ (i := 20) (N := some 33) (v := ?_) (a' := ?_) #[true, true, true, true, true, true, true, true, true, true, true, true, true, true, true, true, false, true, true, true, true, false, false, false, false] rfl rfl (take_ofW HT_.out HW_.out (by kernel_rfl)) (fun _ _ _ h => h) (Or.inl ⟨by rfl, ?_⟩) hHeld ?_ ?_
         rotate_left
         · rintro w' ⟨s0, s1, s2, s3, s4, s5, s6, s7, s8, s9, s10, s11, s12, s13⟩
           go_simp
           with_reducible rfl
         rotate_left
         · simp only [Act.put, List.setIfInBounds_toArray, List.set_cons_zero, List.set_cons_succ, i64_w, i32_w]
           rfl
         refine one_ (i := 16) (N := some 29) #[true, true, true, true, true, true, true, true, true, true, true, true, true, true, true, true, true, true, true, true, true, false, false, false, false] rfl rfl (one_of HT_.out (by kernel_rfl)) (by decide) (fun K hK => ?_)
         refine goes_ Try.func40 (by kernel_rfl) rfl #[.slice A0_3 l0_3.length c0_3, .slice A1_3 l1_3.length c1_3] (by rfl) rfl rfl (by (try simp only [List.map_toArray, List.map_cons, List.map_nil]); first | done | rfl | (simp only [List.length_drop, List.length_take]; rfl)) ?_
         with_reducible refine (cond_TakesComms.calls _ _ l0_3 _ _ l1_3 t285 _ ?side1 ?side2 ?side3 ?side4 A24.out).mono ?_
         (case side1 => repeat (first | exact (Kd.C_below HR0_3.out HB.out) | (with_reducible refine Kd.C_alloc ?_ _) | (with_reducible refine Kd.C_drewN ?_ _) | (with_reducible refine Kd.C_drew ?_)))
         (case side2 => exact HC0_3.out)
         (case side3 => repeat (first | exact (Kd.C_below HR1_3.out HB.out) | (with_reducible refine Kd.C_alloc ?_ _) | (with_reducible refine Kd.C_drewN ?_ _) | (with_reducible refine Kd.C_drew ?_)))
         (case side4 => exact HC1_3.out)
         rintro e w29 ⟨rfl, hb⟩
         refine ⟨_, rfl, ?_⟩
         have n0_ := aM (blk_below (g := gb278) (o := .cells #[.int .i64 a0_0, .slice A0_1 l0_1.length c0_1, .slice A0_2 l0_2.length c0_2, .slice A0_3 l0_3.length c0_3, .int .u32 a0_4, .int .u32 a0_5] 46 (0, 0)) (by (with_reducible repeat (first | apply bkN | apply bkD | apply bkA)); exact BK278.out) hb)
         have n1_ := aM (blk_below (g := gb279) (o := .cells #[.int .u32 a1_0, .int .i64 a1_1, .slice A1_2 l1_2.length c1_2, .slice A1_3 l1_3.length c1_3, .int .u32 a1_4, .int .u32 a1_5, .int .i64 a1_6, .int .u32 a1_7] 50 (0, 0)) (by (with_reducible repeat (first | apply bkN | apply bkD | apply bkA)); exact BK279.out) hb)
         have n2_ := aM (below_step (by repeat (first | (with_reducible first | exact HB.out | apply blA | apply blN | apply blD | refine bS ?_ GE278.out | refine bS ?_ GE279.out) | exact HB.out)) hb)
         clear BK278
         clear BK279
         clear HB
         have BK278 := n0_
         have BK279 := n1_
         have HB := n2_
         clear n0_ n1_ n2_
         (try clear hb)
         (try clear hb2)
         (try clear hk)
         (try clear hi)
         refine hK.out _ _ ⟨(blk_cell BK278.out 0).trans rfl, (blk_cell BK278.out 1).trans rfl, (blk_cell BK278.out 2).trans rfl, (blk_cell BK278.out 3).trans rfl, (blk_cell BK278.out 4).trans rfl, (blk_cell BK278.out 5).trans rfl, (blk_cell BK279.out 0).trans rfl, (blk_cell BK279.out 1).trans rfl, (blk_cell BK279.out 2).trans rfl, (blk_cell BK279.out 3).trans rfl, (blk_cell BK279.out 4).trans rfl, (blk_cell BK279.out 5).trans rfl, (blk_cell BK279.out 6).trans rfl, (blk_cell BK279.out 7).trans rfl⟩ (fun hHeld => ?_)
         clear hK K
         refine norm_ (a' := ?_) ?_ ?_
         rotate_left
         · show Act.put _ (some 29) _ = _
           simp only [Act.put, List.setIfInBounds_toArray, List.set_cons_zero, List.set_cons_succ, i64_w, i32_w]
           rfl
         refine one_ (i := 21) (N := some 34) #[true, true, true, true, true, true, true, true, true, true, true, true, true, true, true, true, true, true, true, true, true, true, false, false, false] rfl rfl (one_of HT_.out (by kernel_rfl)) (by decide) (fun K hK => ?_)
         refine goes_ Try.func41 (by kernel_rfl) rfl #[.slice A0_3 l0_3.length c0_3, .slice A1_3 l1_3.length c1_3] (by rfl) rfl rfl (by (try simp only [List.map_toArray, List.map_cons, List.map_nil]); first | done | rfl | (simp only [List.length_drop, List.length_take]; rfl)) ?_
         with_reducible refine (dragomanref11_TakesComms.calls kj4 _ _ l0_3 _ _ l1_3 t286 _ ?side1 ?side2 ?side3 ?side4 A25.out).mono ?_
         (case side1 => repeat (first | exact (Kd.C_below HR0_3.out HB.out) | (with_reducible refine Kd.C_alloc ?_ _) | (with_reducible refine Kd.C_drewN ?_ _) | (with_reducible refine Kd.C_drew ?_)))
         (case side2 => exact HC0_3.out)
         (case side3 => repeat (first | exact (Kd.C_below HR1_3.out HB.out) | (with_reducible refine Kd.C_alloc ?_ _) | (with_reducible refine Kd.C_drewN ?_ _) | (with_reducible refine Kd.C_drew ?_)))
         (case side4 => exact HC1_3.out)
         rintro e w30 ⟨rfl, hb⟩
         refine ⟨_, rfl, ?_⟩
         have n0_ := aM (blk_below (g := gb278) (o := .cells #[.int .i64 a0_0, .slice A0_1 l0_1.length c0_1, .slice A0_2 l0_2.length c0_2, .slice A0_3 l0_3.length c0_3, .int .u32 a0_4, .int .u32 a0_5] 46 (0, 0)) (by (with_reducible repeat (first | apply bkN | apply bkD | apply bkA)); exact BK278.out) hb)
         have n1_ := aM (blk_below (g := gb279) (o := .cells #[.int .u32 a1_0, .int .i64 a1_1, .slice A1_2 l1_2.length c1_2, .slice A1_3 l1_3.length c1_3, .int .u32 a1_4, .int .u32 a1_5, .int .i64 a1_6, .int .u32 a1_7] 50 (0, 0)) (by (with_reducible repeat (first | apply bkN | apply bkD | apply bkA)); exact BK279.out) hb)
         have n2_ := aM (below_step (by repeat (first | (with_reducible first | exact HB.out | apply blA | apply blN | apply blD | refine bS ?_ GE278.out | refine bS ?_ GE279.out) | exact HB.out)) hb)
         clear BK278
         clear BK279
         clear HB
         have BK278 := n0_
         have BK279 := n1_
         have HB := n2_
         clear n0_ n1_ n2_
         (try clear hb)
         (try clear hb2)
         (try clear hk)
         (try clear hi)
         refine hK.out _ _ ⟨(blk_cell BK278.out 0).trans rfl, (blk_cell BK278.out 1).trans rfl, (blk_cell BK278.out 2).trans rfl, (blk_cell BK278.out 3).trans rfl, (blk_cell BK278.out 4).trans rfl, (blk_cell BK278.out 5).trans rfl, (blk_cell BK279.out 0).trans rfl, (blk_cell BK279.out 1).trans rfl, (blk_cell BK279.out 2).trans rfl, (blk_cell BK279.out 3).trans rfl, (blk_cell BK279.out 4).trans rfl, (blk_cell BK279.out 5).trans rfl, (blk_cell BK279.out 6).trans rfl, (blk_cell BK279.out 7).trans rfl⟩ (fun hHeld => ?_)
         clear hK K
         refine norm_ (a' := ?_) ?_ ?_
         rotate_left
         · show Act.put _ (some 34) _ = _
           simp only [Act.put, List.setIfInBounds_toArray, List.set_cons_zero, List.set_cons_succ, i64_w, i32_w]
           rfl
         refine pure_ (i := 22) (N := some 35) (v := ?_) (a' := ?_) #[true, true, true, true, true, true, true, true, true, true, true, true, true, true, true, true, true, true, true, true, true, true, true, false, false] rfl rfl (any_of HT_.out (by kernel_rfl)) (fun _ _ _ h => h) (Or.inl ⟨by rfl, ?_⟩) ?_ ?_
         rotate_left
         · intro w'
           go_simp
           with_reducible rfl
         rotate_left
         · simp only [Act.put, List.setIfInBounds_toArray, List.set_cons_zero, List.set_cons_succ, i64_w, i32_w]
           rfl
         refine pure_ (i := 23) (N := some 36) (v := ?_) (a' := ?_) #[true, true, true, true, true, true, true, true, true, true, true, true, true, true, true, true, true, true, true, true, true, true, true, true, false] rfl rfl (any_of HT_.out (by kernel_rfl)) (fun _ _ _ h => h) (Or.inl ⟨by rfl, ?_⟩) ?_ ?_
         rotate_left
         · intro w'
           go_simp
           with_reducible rfl
         rotate_left
         · simp only [Act.put, List.setIfInBounds_toArray, List.set_cons_zero, List.set_cons_succ, i64_w, i32_w]
           rfl
         refine pure_ (i := 24) (N := some 4) (v := ?_) (a' := ?_) #[true, true, true, true, true, true, true, true, true, true, true, true, true, true, true, true, true, true, true, true, true, true, true, true, true] rfl rfl (any_of HT_.out (by kernel_rfl)) (fun _ _ _ h => h) (Or.inl ⟨by rfl, ?_⟩) ?_ ?_
         rotate_left
         · intro w'
           go_simp
           with_reducible rfl
         rotate_left
         · simp only [Act.put, List.setIfInBounds_toArray, List.set_cons_zero, List.set_cons_succ, i64_w, i32_w]
           rfl
         refine done_ (done_of HT_.out (by kernel_rfl)) ?_
         try go_wp2
         first | go_ret | refine ⟨_, results_tmp rfl _ _ _, ?_⟩
         exact ⟨by first | rfl | (simp [errW_none, errW_some] <;> rfl) | (simp [*, errW_none, errW_some] <;> rfl), by repeat (first | (with_reducible first | exact HB.out | apply blA | apply blN | apply blD | refine bS ?_ GE278.out | refine bS ?_ GE279.out) | exact HB.out)⟩
       · rw [if_neg c23] at H
         exact absurd H (by simp)
 · replace c4 := Bool.eq_false_iff.mpr c4
   subst c4
   have H1 : (none) = some r := by rw [if_neg (show ¬ (false = true) by decide)] at H; exact H
   clear H
   have H := H1
   clear H1
   exact absurd H (by simp)
end Go.Proofs.Ytlkjfjlmjgkheaa.H
