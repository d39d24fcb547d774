import Derived.Test.YtlkjfjlmjgkheaaHx31
import Derived.Test.YtlkjfjlmjgkheaaHx0
import Derived.Test.YtlkjfjlmjgkheaaHx11
import Derived.Test.YtlkjfjlmjgkheaaHx12
import Derived.Test.YtlkjfjlmjgkheaaHx30
namespace Go.Proofs.Ytlkjfjlmjgkheaa.H
open Go.RowKit Go.Proofs.YtlkjfjlmjgkheaaW.PrintWords Go.Proofs.YtlkjfjlmjgkheaaW.PrintLast Go.Proofs.YtlkjfjlmjgkheaaW.PrintMore
attribute [local go_sem] max2_int min2_int max_two min_two max_three min_three max_four min_four
set_option linter.unusedVariables false
set_option linter.unusedSimpArgs false
set_option maxHeartbeats 8000000 in
set_option maxRecDepth 100000 in
theorem dragomanlaw11_CondOwn.calls (k : Nat) (a0_0 : Int) (A0_1 : Option Addr) (c0_1 : Nat) (l0_1 : List (S83)) (A0_2 : Option Addr) (c0_2 : Nat) (l0_2 : List (S61)) (A0_3 : Option Addr) (c0_3 : Nat) (l0_3 : List (S64)) (a0_4 : Int) (a0_5 : Int) (a1_0 : Int) (a1_1 : Int) (A1_2 : Option Addr) (c1_2 : Nat) (l1_2 : List Int) (A1_3 : Option Addr) (c1_3 : Nat) (l1_3 : List Int) (a1_4 : Int) (a1_5 : Int) (a1_6 : Int) (a1_7 : Int) (a2_0 : Int) (a2_1 : Int) (A2_2 : Option Addr) (c2_2 : Nat) (l2_2 : List Int) (A2_3 : Option Addr) (c2_3 : Nat) (l2_3 : List Int) (a2_4 : Int) (a2_5 : Int) (a2_6 : Int) (a2_7 : Int) (r : Bool) (w : World) (hr0_1 : Kd.C k83 w A0_1 l0_1.length l0_1) (hc0_1 : l0_1.length ≤ c0_1) (hr0_2 : Kd.C k61 w A0_2 l0_2.length l0_2) (hc0_2 : l0_2.length ≤ c0_2) (hr0_3 : Kd.C k64 w A0_3 l0_3.length l0_3) (hc0_3 : l0_3.length ≤ c0_3) (hr1_2 : Kd.C (Kd.int .u32) w A1_2 l1_2.length l1_2) (hc1_2 : l1_2.length ≤ c1_2) (hr1_3 : Kd.C (Kd.int .u32) w A1_3 l1_3.length l1_3) (hc1_3 : l1_3.length ≤ c1_3) (hr2_2 : Kd.C (Kd.int .u32) w A2_2 l2_2.length l2_2) (hc2_2 : l2_2.length ≤ c2_2) (hr2_3 : Kd.C (Kd.int .u32) w A2_3 l2_3.length l2_3) (hc2_3 : l2_3.length ≤ c2_3) (h : dragomanlaw11_CondOwn.f k a0_0 l0_1 l0_2 l0_3 a0_4 a0_5 a1_0 a1_1 l1_2 l1_3 a1_4 a1_5 a1_6 a1_7 a2_0 a2_1 l2_2 l2_3 a2_4 a2_5 a2_6 a2_7 = some r) :
 Calls Try.prog 12 #[.agg #[.int .i64 a0_0, .slice A0_1 l0_1.length c0_1, .slice A0_2 l0_2.length c0_2, .slice A0_3 l0_3.length c0_3, .int .u32 a0_4, .int .u32 a0_5], .agg #[.int .u32 a1_0, .int .i64 a1_1, .slice A1_2 l1_2.length c1_2, .slice A1_3 l1_3.length c1_3, .int .u32 a1_4, .int .u32 a1_5, .int .i64 a1_6, .int .u32 a1_7], .agg #[.int .u32 a2_0, .int .i64 a2_1, .slice A2_2 l2_2.length c2_2, .slice A2_3 l2_3.length c2_3, .int .u32 a2_4, .int .u32 a2_5, .int .i64 a2_6, .int .u32 a2_7]] w fun e w' => e = .returned (.bool r) ∧ Below w.heap.size w w' := by
 have hu46 := Try.underlying46
 have hu50 := Try.underlying50
 have hu48 := Try.underlying48
 have HR0_1 := aM hr0_1
 have HC0_1 := aM hc0_1
 clear hr0_1 hc0_1
 have HR0_2 := aM hr0_2
 have HC0_2 := aM hc0_2
 clear hr0_2 hc0_2
 have HR0_3 := aM hr0_3
 have HC0_3 := aM hc0_3
 clear hr0_3 hc0_3
 have HR1_2 := aM hr1_2
 have HC1_2 := aM hc1_2
 clear hr1_2 hc1_2
 have HR1_3 := aM hr1_3
 have HC1_3 := aM hc1_3
 clear hr1_3 hc1_3
 have HR2_2 := aM hr2_2
 have HC2_2 := aM hc2_2
 clear hr2_2 hc2_2
 have HR2_3 := aM hr2_3
 have HC2_3 := aM hc2_3
 clear hr2_3 hc2_3
 have HB := aM (Below.refl w.heap.size w)
 have H : ((dragomanlaw11_alive.f k).bind fun t227 => (if t227 = true then ((dragomanref11_Great.f k a0_0 l0_1 l0_2 l0_3 a0_4 a0_5).bind fun t228 => (if t228 = true then (dragomanlaw11_CondOwn.j0 k true a0_0 l0_1 l0_2 l0_3 a0_4 a0_5 a1_0 a1_1 l1_2 l1_3 a1_4 a1_5 a1_6 a1_7 a2_0 a2_1 l2_2 l2_3 a2_4 a2_5 a2_6 a2_7) else ((r3_Great.f a1_0 a1_1 l1_2 l1_3 a1_4 a1_5 a1_6 a1_7).bind fun t229 => (if t229 = true then (dragomanlaw11_CondOwn.j0 k true a0_0 l0_1 l0_2 l0_3 a0_4 a0_5 a1_0 a1_1 l1_2 l1_3 a1_4 a1_5 a1_6 a1_7 a2_0 a2_1 l2_2 l2_3 a2_4 a2_5 a2_6 a2_7) else ((r3_Great.f a2_0 a2_1 l2_2 l2_3 a2_4 a2_5 a2_6 a2_7).bind fun t230 => (dragomanlaw11_CondOwn.j0 k t230 a0_0 l0_1 l0_2 l0_3 a0_4 a0_5 a1_0 a1_1 l1_2 l1_3 a1_4 a1_5 a1_6 a1_7 a2_0 a2_1 l2_2 l2_3 a2_4 a2_5 a2_6 a2_7)))))) else (none))) = some r := h
 clear h
 replace H := Option.bind_eq_some_iff.mp H
 obtain ⟨t227, A40, H⟩ := H
 replace H : (if t227 = true then ((dragomanref11_Great.f k a0_0 l0_1 l0_2 l0_3 a0_4 a0_5).bind fun t228 => (if t228 = true then (dragomanlaw11_CondOwn.j0 k true a0_0 l0_1 l0_2 l0_3 a0_4 a0_5 a1_0 a1_1 l1_2 l1_3 a1_4 a1_5 a1_6 a1_7 a2_0 a2_1 l2_2 l2_3 a2_4 a2_5 a2_6 a2_7) else ((r3_Great.f a1_0 a1_1 l1_2 l1_3 a1_4 a1_5 a1_6 a1_7).bind fun t229 => (if t229 = true then (dragomanlaw11_CondOwn.j0 k true a0_0 l0_1 l0_2 l0_3 a0_4 a0_5 a1_0 a1_1 l1_2 l1_3 a1_4 a1_5 a1_6 a1_7 a2_0 a2_1 l2_2 l2_3 a2_4 a2_5 a2_6 a2_7) else ((r3_Great.f a2_0 a2_1 l2_2 l2_3 a2_4 a2_5 a2_6 a2_7).bind fun t230 => (dragomanlaw11_CondOwn.j0 k t230 a0_0 l0_1 l0_2 l0_3 a0_4 a0_5 a1_0 a1_1 l1_2 l1_3 a1_4 a1_5 a1_6 a1_7 a2_0 a2_1 l2_2 l2_3 a2_4 a2_5 a2_6 a2_7)))))) else (none)) = some r := H
 have A4 := aM A40
 clear A40
 by_cases c5 : t227 = true
 · subst c5
   have H1 : ((dragomanref11_Great.f k a0_0 l0_1 l0_2 l0_3 a0_4 a0_5).bind fun t228 => (if t228 = true then (dragomanlaw11_CondOwn.j0 k true a0_0 l0_1 l0_2 l0_3 a0_4 a0_5 a1_0 a1_1 l1_2 l1_3 a1_4 a1_5 a1_6 a1_7 a2_0 a2_1 l2_2 l2_3 a2_4 a2_5 a2_6 a2_7) else ((r3_Great.f a1_0 a1_1 l1_2 l1_3 a1_4 a1_5 a1_6 a1_7).bind fun t229 => (if t229 = true then (dragomanlaw11_CondOwn.j0 k true a0_0 l0_1 l0_2 l0_3 a0_4 a0_5 a1_0 a1_1 l1_2 l1_3 a1_4 a1_5 a1_6 a1_7 a2_0 a2_1 l2_2 l2_3 a2_4 a2_5 a2_6 a2_7) else ((r3_Great.f a2_0 a2_1 l2_2 l2_3 a2_4 a2_5 a2_6 a2_7).bind fun t230 => (dragomanlaw11_CondOwn.j0 k t230 a0_0 l0_1 l0_2 l0_3 a0_4 a0_5 a1_0 a1_1 l1_2 l1_3 a1_4 a1_5 a1_6 a1_7 a2_0 a2_1 l2_2 l2_3 a2_4 a2_5 a2_6 a2_7)))))) = some r := by rw [if_pos rfl] at H; exact H
   clear H
   have H := H1
   clear H1
   have HC6 := aM H
   clear H
   go_enter Try.func12, Try.ntmps12
   go_upto_region 3 with (first | ((with_reducible refine gate_dst (N := 3) rfl ?_); refine box_event ?hg (N := 3) ?hd (cs := #[.int .i64 a0_0, .slice A0_1 l0_1.length c0_1, .slice A0_2 l0_2.length c0_2, .slice A0_3 l0_3.length c0_3, .int .u32 a0_4, .int .u32 a0_5]) (t := 46) ?hr ?_; (case hd => rfl); (case hg => rfl); (case hr => first | (go_simp; done) | (go_simp; rfl)); intro gb224 hg w7 hbox hb; have n0_ := aM (below_step (bw_ HB.out) hb); have n1_ := aM (hbox); have n2_ := aM ((by rw [hg]; exact (below_size (bw_ HB.out)) : w.heap.size ≤ gb224)); have n3_ := aM ((by rw [hg]; exact (below_size (bw_ HB.out)) : w.heap.size ≤ gb224)); clear HB; have HB := n0_; have BK224 := n1_; have GW224 := n2_; have GE224 := n3_; clear n0_ n1_ n2_ n3_; clear hb hbox hg) | ((with_reducible refine gate_dst (N := 4) rfl ?_); refine box_event ?hg (N := 4) ?hd (cs := #[.int .u32 a1_0, .int .i64 a1_1, .slice A1_2 l1_2.length c1_2, .slice A1_3 l1_3.length c1_3, .int .u32 a1_4, .int .u32 a1_5, .int .i64 a1_6, .int .u32 a1_7]) (t := 50) ?hr ?_; (case hd => rfl); (case hg => rfl); (case hr => first | (go_simp; done) | (go_simp; rfl)); intro gb225 hg w8 hbox hb; have n0_ := aM (blk_below (g := gb224) (o := .cells #[.int .i64 a0_0, .slice A0_1 l0_1.length c0_1, .slice A0_2 l0_2.length c0_2, .slice A0_3 l0_3.length c0_3, .int .u32 a0_4, .int .u32 a0_5] 46 (0, 0)) (up_ BK224.out) hb); have n1_ := aM (below_step (bw_ HB.out) hb); have n2_ := aM (hbox); have n3_ := aM ((by rw [hg]; exact (below_size (bw_ HB.out)) : w.heap.size ≤ gb225)); have n4_ := aM ((by rw [hg]; exact (below_size (bw_ HB.out)) : w.heap.size ≤ gb225)); have n5_ := aM ((by rw [hg]; exact Nat.ne_of_lt (blk_lt (g := gb224) (o := .cells #[.int .i64 a0_0, .slice A0_1 l0_1.length c0_1, .slice A0_2 l0_2.length c0_2, .slice A0_3 l0_3.length c0_3, .int .u32 a0_4, .int .u32 a0_5] 46 (0, 0)) (up_ BK224.out)) : gb224 ≠ gb225)); have n6_ := aM ((by rw [hg]; exact Nat.ne_of_gt (blk_lt (g := gb224) (o := .cells #[.int .i64 a0_0, .slice A0_1 l0_1.length c0_1, .slice A0_2 l0_2.length c0_2, .slice A0_3 l0_3.length c0_3, .int .u32 a0_4, .int .u32 a0_5] 46 (0, 0)) (up_ BK224.out)) : gb225 ≠ gb224)); clear BK224; clear HB; have BK224 := n0_; have HB := n1_; have BK225 := n2_; have GW225 := n3_; have GE225 := n4_; have NB224_225 := n5_; have NB225_224 := n6_; clear n0_ n1_ n2_ n3_ n4_ n5_ n6_; clear hb hbox hg) | ((with_reducible refine gate_dst (N := 5) rfl ?_); refine box_event ?hg (N := 5) ?hd (cs := #[.int .u32 a2_0, .int .i64 a2_1, .slice A2_2 l2_2.length c2_2, .slice A2_3 l2_3.length c2_3, .int .u32 a2_4, .int .u32 a2_5, .int .i64 a2_6, .int .u32 a2_7]) (t := 50) ?hr ?_; (case hd => rfl); (case hg => rfl); (case hr => first | (go_simp; done) | (go_simp; rfl)); intro gb226 hg w9 hbox hb; have n0_ := aM (blk_below (g := gb224) (o := .cells #[.int .i64 a0_0, .slice A0_1 l0_1.length c0_1, .slice A0_2 l0_2.length c0_2, .slice A0_3 l0_3.length c0_3, .int .u32 a0_4, .int .u32 a0_5] 46 (0, 0)) (up_ BK224.out) hb); have n1_ := aM (blk_below (g := gb225) (o := .cells #[.int .u32 a1_0, .int .i64 a1_1, .slice A1_2 l1_2.length c1_2, .slice A1_3 l1_3.length c1_3, .int .u32 a1_4, .int .u32 a1_5, .int .i64 a1_6, .int .u32 a1_7] 50 (0, 0)) (up_ BK225.out) hb); have n2_ := aM (below_step (bw_ HB.out) hb); have n3_ := aM (hbox); have n4_ := aM ((by rw [hg]; exact (below_size (bw_ HB.out)) : w.heap.size ≤ gb226)); have n5_ := aM ((by rw [hg]; exact (below_size (bw_ HB.out)) : w.heap.size ≤ gb226)); have n6_ := aM ((by rw [hg]; exact Nat.ne_of_lt (blk_lt (g := gb224) (o := .cells #[.int .i64 a0_0, .slice A0_1 l0_1.length c0_1, .slice A0_2 l0_2.length c0_2, .slice A0_3 l0_3.length c0_3, .int .u32 a0_4, .int .u32 a0_5] 46 (0, 0)) (up_ BK224.out)) : gb224 ≠ gb226)); have n7_ := aM ((by rw [hg]; exact Nat.ne_of_gt (blk_lt (g := gb224) (o := .cells #[.int .i64 a0_0, .slice A0_1 l0_1.length c0_1, .slice A0_2 l0_2.length c0_2, .slice A0_3 l0_3.length c0_3, .int .u32 a0_4, .int .u32 a0_5] 46 (0, 0)) (up_ BK224.out)) : gb226 ≠ gb224)); have n8_ := aM ((by rw [hg]; exact Nat.ne_of_lt (blk_lt (g := gb225) (o := .cells #[.int .u32 a1_0, .int .i64 a1_1, .slice A1_2 l1_2.length c1_2, .slice A1_3 l1_3.length c1_3, .int .u32 a1_4, .int .u32 a1_5, .int .i64 a1_6, .int .u32 a1_7] 50 (0, 0)) (up_ BK225.out)) : gb225 ≠ gb226)); have n9_ := aM ((by rw [hg]; exact Nat.ne_of_gt (blk_lt (g := gb225) (o := .cells #[.int .u32 a1_0, .int .i64 a1_1, .slice A1_2 l1_2.length c1_2, .slice A1_3 l1_3.length c1_3, .int .u32 a1_4, .int .u32 a1_5, .int .i64 a1_6, .int .u32 a1_7] 50 (0, 0)) (up_ BK225.out)) : gb226 ≠ gb225)); clear BK224; clear BK225; clear HB; have BK224 := n0_; have BK225 := n1_; have HB := n2_; have BK226 := n3_; have GW226 := n4_; have GE226 := n5_; have NB224_226 := n6_; have NB226_224 := n7_; have NB225_226 := n8_; have NB226_225 := n9_; clear n0_ n1_ n2_ n3_ n4_ n5_ n6_ n7_ n8_ n9_; clear hb hbox hg) | ((with_reducible refine gate_callee (f := 27) rfl ?_); refine goesL_ (some 9) rfl rfl Try.func27 (by kernel_rfl) rfl #[] rfl (by (try simp only [List.map_toArray, List.map_cons, List.map_nil]); first | done | rfl | (simp only [List.length_drop, List.length_take]; rfl)) ?_; (with_reducible refine (dragomanlaw11_alive.calls k  true _ A4.out).mono ?_); rintro e w10 ⟨rfl, hb⟩; refine ⟨_, rfl, ?_⟩; have n0_ := aM (blk_below (g := gb224) (o := .cells #[.int .i64 a0_0, .slice A0_1 l0_1.length c0_1, .slice A0_2 l0_2.length c0_2, .slice A0_3 l0_3.length c0_3, .int .u32 a0_4, .int .u32 a0_5] 46 (0, 0)) (up_ BK224.out) hb); have n1_ := aM (blk_below (g := gb225) (o := .cells #[.int .u32 a1_0, .int .i64 a1_1, .slice A1_2 l1_2.length c1_2, .slice A1_3 l1_3.length c1_3, .int .u32 a1_4, .int .u32 a1_5, .int .i64 a1_6, .int .u32 a1_7] 50 (0, 0)) (up_ BK225.out) hb); have n2_ := aM (blk_below (g := gb226) (o := .cells #[.int .u32 a2_0, .int .i64 a2_1, .slice A2_2 l2_2.length c2_2, .slice A2_3 l2_3.length c2_3, .int .u32 a2_4, .int .u32 a2_5, .int .i64 a2_6, .int .u32 a2_7] 50 (0, 0)) (up_ BK226.out) hb); have n3_ := aM (below_step (bw_ HB.out) hb); clear BK224; clear BK225; clear BK226; clear HB; have BK224 := n0_; have BK225 := n1_; have BK226 := n2_; have HB := n3_; clear n0_ n1_ n2_ n3_; (try clear hb); (try clear hb2); (try clear hk); (try clear hi)))
   (try simp only [Act.put, sT, sZ, sS])
   go_cut [20] (fun v20 wc => ∃ (kq : Nat) (x20_5 : Bool), v20 = .bool x20_5 ∧ Aside0 (dragomanlaw11_CondOwn.j0 kq x20_5 a0_0 l0_1 l0_2 l0_3 a0_4 a0_5 a1_0 a1_1 l1_2 l1_3 a1_4 a1_5 a1_6 a1_7 a2_0 a2_1 l2_2 l2_3 a2_4 a2_5 a2_6 a2_7 = some r) ∧ Aside0 (kq ≤ k) ∧ Aside0 (wc.heap[gb224]? = some (.cells #[.int .i64 a0_0, (.slice A0_1 l0_1.length c0_1), (.slice A0_2 l0_2.length c0_2), (.slice A0_3 l0_3.length c0_3), .int .u32 a0_4, .int .u32 a0_5] 46 (0, 0))) ∧ Aside0 (wc.heap[gb225]? = some (.cells #[.int .u32 a1_0, .int .i64 a1_1, (.slice A1_2 l1_2.length c1_2), (.slice A1_3 l1_3.length c1_3), .int .u32 a1_4, .int .u32 a1_5, .int .i64 a1_6, .int .u32 a1_7] 50 (0, 0))) ∧ Aside0 (wc.heap[gb226]? = some (.cells #[.int .u32 a2_0, .int .i64 a2_1, (.slice A2_2 l2_2.length c2_2), (.slice A2_3 l2_3.length c2_3), .int .u32 a2_4, .int .u32 a2_5, .int .i64 a2_6, .int .u32 a2_7] 50 (0, 0))) ∧ Aside0 (Below w.heap.size w wc))
   case first =>
    have H := HC6.out
    clear HC6
    replace H := Option.bind_eq_some_iff.mp H
    obtain ⟨t228, A110, H⟩ := H
    replace H : (if t228 = true then (dragomanlaw11_CondOwn.j0 k true a0_0 l0_1 l0_2 l0_3 a0_4 a0_5 a1_0 a1_1 l1_2 l1_3 a1_4 a1_5 a1_6 a1_7 a2_0 a2_1 l2_2 l2_3 a2_4 a2_5 a2_6 a2_7) else ((r3_Great.f a1_0 a1_1 l1_2 l1_3 a1_4 a1_5 a1_6 a1_7).bind fun t229 => (if t229 = true then (dragomanlaw11_CondOwn.j0 k true a0_0 l0_1 l0_2 l0_3 a0_4 a0_5 a1_0 a1_1 l1_2 l1_3 a1_4 a1_5 a1_6 a1_7 a2_0 a2_1 l2_2 l2_3 a2_4 a2_5 a2_6 a2_7) else ((r3_Great.f a2_0 a2_1 l2_2 l2_3 a2_4 a2_5 a2_6 a2_7).bind fun t230 => (dragomanlaw11_CondOwn.j0 k t230 a0_0 l0_1 l0_2 l0_3 a0_4 a0_5 a1_0 a1_1 l1_2 l1_3 a1_4 a1_5 a1_6 a1_7 a2_0 a2_1 l2_2 l2_3 a2_4 a2_5 a2_6 a2_7))))) = some r := H
    have A11 := aM A110
    clear A110
    by_cases c12 : t228 = true
    · subst c12
      have H1 : (dragomanlaw11_CondOwn.j0 k true a0_0 l0_1 l0_2 l0_3 a0_4 a0_5 a1_0 a1_1 l1_2 l1_3 a1_4 a1_5 a1_6 a1_7 a2_0 a2_1 l2_2 l2_3 a2_4 a2_5 a2_6 a2_7) = some r := by rw [if_pos rfl] at H; exact H
      clear H
      have H := H1
      clear H1
      have H' := aM H
      clear H
      have hnb13 := NB224_225.out
      have hnc13 := NB225_224.out
      have hnb14 := NB224_226.out
      have hnc14 := NB226_224.out
      have hcz15_0 : w10.cell? ⟨gb224, 0, none⟩ = some (.int .i64 a0_0) := (blk_cell BK224.out 0).trans rfl
      have hcz15_1 : w10.cell? ⟨gb224, 1, none⟩ = some (.slice A0_1 l0_1.length c0_1) := (blk_cell BK224.out 1).trans rfl
      have hcz15_2 : w10.cell? ⟨gb224, 2, none⟩ = some (.slice A0_2 l0_2.length c0_2) := (blk_cell BK224.out 2).trans rfl
      have hcz15_3 : w10.cell? ⟨gb224, 3, none⟩ = some (.slice A0_3 l0_3.length c0_3) := (blk_cell BK224.out 3).trans rfl
      have hcz15_4 : w10.cell? ⟨gb224, 4, none⟩ = some (.int .u32 a0_4) := (blk_cell BK224.out 4).trans rfl
      have hcz15_5 : w10.cell? ⟨gb224, 5, none⟩ = some (.int .u32 a0_5) := (blk_cell BK224.out 5).trans rfl
      have hfz15_0 := bF BK224.out 0
      have hfz15_1 := bF BK224.out 1
      have hfz15_2 := bF BK224.out 2
      have hfz15_3 := bF BK224.out 3
      have hfz15_4 := bF BK224.out 4
      have hfz15_5 := bF BK224.out 5
      go_wp2_with (first | ((with_reducible refine gate_callee (f := 28) rfl ?_); refine goesL_ (some 12) rfl rfl Try.func28 (by kernel_rfl) rfl #[.agg #[.int .i64 a0_0, .slice A0_1 l0_1.length c0_1, .slice A0_2 l0_2.length c0_2, .slice A0_3 l0_3.length c0_3, .int .u32 a0_4, .int .u32 a0_5]] rfl (by (try simp only [List.map_toArray, List.map_cons, List.map_nil]); first | done | rfl | (simp only [List.length_drop, List.length_take]; rfl)) ?_; (with_reducible refine (dragomanref11_Great.calls k a0_0 _ _ l0_1 _ _ l0_2 _ _ l0_3 a0_4 a0_5 true _ ?side1 ?side2 ?side3 ?side4 ?side5 ?side6 A11.out).mono ?_); (case side1 => repeat (first | exact (Kd.C_below HR0_1.out HB.out) | (with_reducible refine Kd.C_alloc ?_ _) | (with_reducible refine Kd.C_drewN ?_ _) | (with_reducible refine Kd.C_drew ?_))); (case side2 => exact HC0_1.out); (case side3 => repeat (first | exact (Kd.C_below HR0_2.out HB.out) | (with_reducible refine Kd.C_alloc ?_ _) | (with_reducible refine Kd.C_drewN ?_ _) | (with_reducible refine Kd.C_drew ?_))); (case side4 => exact HC0_2.out); (case side5 => repeat (first | exact (Kd.C_below HR0_3.out HB.out) | (with_reducible refine Kd.C_alloc ?_ _) | (with_reducible refine Kd.C_drewN ?_ _) | (with_reducible refine Kd.C_drew ?_))); (case side6 => exact HC0_3.out); rintro e w16 ⟨rfl, hb⟩; refine ⟨_, rfl, ?_⟩; have n0_ := aM (blk_below (g := gb224) (o := .cells #[.int .i64 a0_0, .slice A0_1 l0_1.length c0_1, .slice A0_2 l0_2.length c0_2, .slice A0_3 l0_3.length c0_3, .int .u32 a0_4, .int .u32 a0_5] 46 (0, 0)) (up_ BK224.out) hb); have n1_ := aM (blk_below (g := gb225) (o := .cells #[.int .u32 a1_0, .int .i64 a1_1, .slice A1_2 l1_2.length c1_2, .slice A1_3 l1_3.length c1_3, .int .u32 a1_4, .int .u32 a1_5, .int .i64 a1_6, .int .u32 a1_7] 50 (0, 0)) (up_ BK225.out) hb); have n2_ := aM (blk_below (g := gb226) (o := .cells #[.int .u32 a2_0, .int .i64 a2_1, .slice A2_2 l2_2.length c2_2, .slice A2_3 l2_3.length c2_3, .int .u32 a2_4, .int .u32 a2_5, .int .i64 a2_6, .int .u32 a2_7] 50 (0, 0)) (up_ BK226.out) hb); have n3_ := aM (below_step (bw_ HB.out) hb); clear BK224; clear BK225; clear BK226; clear HB; have BK224 := n0_; have BK225 := n1_; have BK226 := n2_; have HB := n3_; clear n0_ n1_ n2_ n3_; (try clear hb); (try clear hb2); (try clear hk); (try clear hi)))
      go_meet
      case rel => exact ⟨_, (true), (by first | rfl | (simp; done) | (simp [*]; done)), H', ⟨by first | omega | exact Nat.le_refl _⟩, ⟨by (with_reducible repeat (first | apply bkN | apply bkD | apply bkA)); exact BK224.out⟩, ⟨by (with_reducible repeat (first | apply bkN | apply bkD | apply bkA)); exact BK225.out⟩, ⟨by (with_reducible repeat (first | apply bkN | apply bkD | apply bkA)); exact BK226.out⟩, ⟨by repeat (first | (with_reducible first | exact HB.out | apply blA | apply blN | apply blD | refine bS ?_ GE224.out | refine bS ?_ GE225.out | refine bS ?_ GE226.out) | exact HB.out)⟩⟩
    · replace c12 := Bool.eq_false_iff.mpr c12
      subst c12
      have H1 : ((r3_Great.f a1_0 a1_1 l1_2 l1_3 a1_4 a1_5 a1_6 a1_7).bind fun t229 => (if t229 = true then (dragomanlaw11_CondOwn.j0 k true a0_0 l0_1 l0_2 l0_3 a0_4 a0_5 a1_0 a1_1 l1_2 l1_3 a1_4 a1_5 a1_6 a1_7 a2_0 a2_1 l2_2 l2_3 a2_4 a2_5 a2_6 a2_7) else ((r3_Great.f a2_0 a2_1 l2_2 l2_3 a2_4 a2_5 a2_6 a2_7).bind fun t230 => (dragomanlaw11_CondOwn.j0 k t230 a0_0 l0_1 l0_2 l0_3 a0_4 a0_5 a1_0 a1_1 l1_2 l1_3 a1_4 a1_5 a1_6 a1_7 a2_0 a2_1 l2_2 l2_3 a2_4 a2_5 a2_6 a2_7)))) = some r := by rw [if_neg (show ¬ (false = true) by decide)] at H; exact H
      clear H
      have H := H1
      clear H1
      replace H := Option.bind_eq_some_iff.mp H
      obtain ⟨t229, A170, H⟩ := H
      replace H : (if t229 = true then (dragomanlaw11_CondOwn.j0 k true a0_0 l0_1 l0_2 l0_3 a0_4 a0_5 a1_0 a1_1 l1_2 l1_3 a1_4 a1_5 a1_6 a1_7 a2_0 a2_1 l2_2 l2_3 a2_4 a2_5 a2_6 a2_7) else ((r3_Great.f a2_0 a2_1 l2_2 l2_3 a2_4 a2_5 a2_6 a2_7).bind fun t230 => (dragomanlaw11_CondOwn.j0 k t230 a0_0 l0_1 l0_2 l0_3 a0_4 a0_5 a1_0 a1_1 l1_2 l1_3 a1_4 a1_5 a1_6 a1_7 a2_0 a2_1 l2_2 l2_3 a2_4 a2_5 a2_6 a2_7))) = some r := H
      have A17 := aM A170
      clear A170
      by_cases c18 : t229 = true
      · subst c18
        have H1 : (dragomanlaw11_CondOwn.j0 k true a0_0 l0_1 l0_2 l0_3 a0_4 a0_5 a1_0 a1_1 l1_2 l1_3 a1_4 a1_5 a1_6 a1_7 a2_0 a2_1 l2_2 l2_3 a2_4 a2_5 a2_6 a2_7) = some r := by rw [if_pos rfl] at H; exact H
        clear H
        have H := H1
        clear H1
        have H' := aM H
        clear H
        have hnb19 := NB224_225.out
        have hnc19 := NB225_224.out
        have hnb20 := NB224_226.out
        have hnc20 := NB226_224.out
        have hcz21_0 : w10.cell? ⟨gb224, 0, none⟩ = some (.int .i64 a0_0) := (blk_cell BK224.out 0).trans rfl
        have hcz21_1 : w10.cell? ⟨gb224, 1, none⟩ = some (.slice A0_1 l0_1.length c0_1) := (blk_cell BK224.out 1).trans rfl
        have hcz21_2 : w10.cell? ⟨gb224, 2, none⟩ = some (.slice A0_2 l0_2.length c0_2) := (blk_cell BK224.out 2).trans rfl
        have hcz21_3 : w10.cell? ⟨gb224, 3, none⟩ = some (.slice A0_3 l0_3.length c0_3) := (blk_cell BK224.out 3).trans rfl
        have hcz21_4 : w10.cell? ⟨gb224, 4, none⟩ = some (.int .u32 a0_4) := (blk_cell BK224.out 4).trans rfl
        have hcz21_5 : w10.cell? ⟨gb224, 5, none⟩ = some (.int .u32 a0_5) := (blk_cell BK224.out 5).trans rfl
        have hfz21_0 := bF BK224.out 0
        have hfz21_1 := bF BK224.out 1
        have hfz21_2 := bF BK224.out 2
        have hfz21_3 := bF BK224.out 3
        have hfz21_4 := bF BK224.out 4
        have hfz21_5 := bF BK224.out 5
        go_wp2_with (first | ((with_reducible refine gate_callee (f := 28) rfl ?_); refine goesL_ (some 12) rfl rfl Try.func28 (by kernel_rfl) rfl #[.agg #[.int .i64 a0_0, .slice A0_1 l0_1.length c0_1, .slice A0_2 l0_2.length c0_2, .slice A0_3 l0_3.length c0_3, .int .u32 a0_4, .int .u32 a0_5]] rfl (by (try simp only [List.map_toArray, List.map_cons, List.map_nil]); first | done | rfl | (simp only [List.length_drop, List.length_take]; rfl)) ?_; (with_reducible refine (dragomanref11_Great.calls k a0_0 _ _ l0_1 _ _ l0_2 _ _ l0_3 a0_4 a0_5 false _ ?side1 ?side2 ?side3 ?side4 ?side5 ?side6 A11.out).mono ?_); (case side1 => repeat (first | exact (Kd.C_below HR0_1.out HB.out) | (with_reducible refine Kd.C_alloc ?_ _) | (with_reducible refine Kd.C_drewN ?_ _) | (with_reducible refine Kd.C_drew ?_))); (case side2 => exact HC0_1.out); (case side3 => repeat (first | exact (Kd.C_below HR0_2.out HB.out) | (with_reducible refine Kd.C_alloc ?_ _) | (with_reducible refine Kd.C_drewN ?_ _) | (with_reducible refine Kd.C_drew ?_))); (case side4 => exact HC0_2.out); (case side5 => repeat (first | exact (Kd.C_below HR0_3.out HB.out) | (with_reducible refine Kd.C_alloc ?_ _) | (with_reducible refine Kd.C_drewN ?_ _) | (with_reducible refine Kd.C_drew ?_))); (case side6 => exact HC0_3.out); rintro e w22 ⟨rfl, hb⟩; refine ⟨_, rfl, ?_⟩; have n0_ := aM (blk_below (g := gb224) (o := .cells #[.int .i64 a0_0, .slice A0_1 l0_1.length c0_1, .slice A0_2 l0_2.length c0_2, .slice A0_3 l0_3.length c0_3, .int .u32 a0_4, .int .u32 a0_5] 46 (0, 0)) (up_ BK224.out) hb); have n1_ := aM (blk_below (g := gb225) (o := .cells #[.int .u32 a1_0, .int .i64 a1_1, .slice A1_2 l1_2.length c1_2, .slice A1_3 l1_3.length c1_3, .int .u32 a1_4, .int .u32 a1_5, .int .i64 a1_6, .int .u32 a1_7] 50 (0, 0)) (up_ BK225.out) hb); have n2_ := aM (blk_below (g := gb226) (o := .cells #[.int .u32 a2_0, .int .i64 a2_1, .slice A2_2 l2_2.length c2_2, .slice A2_3 l2_3.length c2_3, .int .u32 a2_4, .int .u32 a2_5, .int .i64 a2_6, .int .u32 a2_7] 50 (0, 0)) (up_ BK226.out) hb); have n3_ := aM (below_step (bw_ HB.out) hb); clear BK224; clear BK225; clear BK226; clear HB; have BK224 := n0_; have BK225 := n1_; have BK226 := n2_; have HB := n3_; clear n0_ n1_ n2_ n3_; clear hb; have hnb23 := NB225_226.out; have hnc23 := NB226_225.out; have hcz24_0 : w22.cell? ⟨gb225, 0, none⟩ = some (.int .u32 a1_0) := (blk_cell BK225.out 0).trans rfl; have hcz24_1 : w22.cell? ⟨gb225, 1, none⟩ = some (.int .i64 a1_1) := (blk_cell BK225.out 1).trans rfl; have hcz24_2 : w22.cell? ⟨gb225, 2, none⟩ = some (.slice A1_2 l1_2.length c1_2) := (blk_cell BK225.out 2).trans rfl; have hcz24_3 : w22.cell? ⟨gb225, 3, none⟩ = some (.slice A1_3 l1_3.length c1_3) := (blk_cell BK225.out 3).trans rfl; have hcz24_4 : w22.cell? ⟨gb225, 4, none⟩ = some (.int .u32 a1_4) := (blk_cell BK225.out 4).trans rfl; have hcz24_5 : w22.cell? ⟨gb225, 5, none⟩ = some (.int .u32 a1_5) := (blk_cell BK225.out 5).trans rfl; have hcz24_6 : w22.cell? ⟨gb225, 6, none⟩ = some (.int .i64 a1_6) := (blk_cell BK225.out 6).trans rfl; have hcz24_7 : w22.cell? ⟨gb225, 7, none⟩ = some (.int .u32 a1_7) := (blk_cell BK225.out 7).trans rfl; have hfz24_0 := bF BK225.out 0; have hfz24_1 := bF BK225.out 1; have hfz24_2 := bF BK225.out 2; have hfz24_3 := bF BK225.out 3; have hfz24_4 := bF BK225.out 4; have hfz24_5 := bF BK225.out 5; have hfz24_6 := bF BK225.out 6; have hfz24_7 := bF BK225.out 7) | (go_at_call 29; (with_reducible refine (r3_Great.calls a1_0 a1_1 _ _ l1_2 _ _ l1_3 a1_4 a1_5 a1_6 a1_7 true _ ?side1 ?side2 ?side3 ?side4 A17.out).mono ?_); (case side1 => repeat (first | exact (Kd.C_below HR1_2.out HB.out) | (with_reducible refine Kd.C_alloc ?_ _) | (with_reducible refine Kd.C_drewN ?_ _) | (with_reducible refine Kd.C_drew ?_))); (case side2 => exact HC1_2.out); (case side3 => repeat (first | exact (Kd.C_below HR1_3.out HB.out) | (with_reducible refine Kd.C_alloc ?_ _) | (with_reducible refine Kd.C_drewN ?_ _) | (with_reducible refine Kd.C_drew ?_))); (case side4 => exact HC1_3.out); rintro e w25 ⟨rfl, hb⟩; have n0_ := aM (blk_below (g := gb224) (o := .cells #[.int .i64 a0_0, .slice A0_1 l0_1.length c0_1, .slice A0_2 l0_2.length c0_2, .slice A0_3 l0_3.length c0_3, .int .u32 a0_4, .int .u32 a0_5] 46 (0, 0)) (up_ BK224.out) hb); have n1_ := aM (blk_below (g := gb225) (o := .cells #[.int .u32 a1_0, .int .i64 a1_1, .slice A1_2 l1_2.length c1_2, .slice A1_3 l1_3.length c1_3, .int .u32 a1_4, .int .u32 a1_5, .int .i64 a1_6, .int .u32 a1_7] 50 (0, 0)) (up_ BK225.out) hb); have n2_ := aM (blk_below (g := gb226) (o := .cells #[.int .u32 a2_0, .int .i64 a2_1, .slice A2_2 l2_2.length c2_2, .slice A2_3 l2_3.length c2_3, .int .u32 a2_4, .int .u32 a2_5, .int .i64 a2_6, .int .u32 a2_7] 50 (0, 0)) (up_ BK226.out) hb); have n3_ := aM (below_step (bw_ HB.out) hb); clear BK224; clear BK225; clear BK226; clear HB; have BK224 := n0_; have BK225 := n1_; have BK226 := n2_; have HB := n3_; clear n0_ n1_ n2_ n3_; (try clear hb); (try clear hb2); (try clear hk); (try clear hi)))
        go_meet
        case rel => exact ⟨_, (true), (by first | rfl | (simp; done) | (simp [*]; done)), H', ⟨by first | omega | exact Nat.le_refl _⟩, ⟨by (with_reducible repeat (first | apply bkN | apply bkD | apply bkA)); exact BK224.out⟩, ⟨by (with_reducible repeat (first | apply bkN | apply bkD | apply bkA)); exact BK225.out⟩, ⟨by (with_reducible repeat (first | apply bkN | apply bkD | apply bkA)); exact BK226.out⟩, ⟨by repeat (first | (with_reducible first | exact HB.out | apply blA | apply blN | apply blD | refine bS ?_ GE224.out | refine bS ?_ GE225.out | refine bS ?_ GE226.out) | exact HB.out)⟩⟩
      · replace c18 := Bool.eq_false_iff.mpr c18
        subst c18
        have H1 : ((r3_Great.f a2_0 a2_1 l2_2 l2_3 a2_4 a2_5 a2_6 a2_7).bind fun t230 => (dragomanlaw11_CondOwn.j0 k t230 a0_0 l0_1 l0_2 l0_3 a0_4 a0_5 a1_0 a1_1 l1_2 l1_3 a1_4 a1_5 a1_6 a1_7 a2_0 a2_1 l2_2 l2_3 a2_4 a2_5 a2_6 a2_7)) = some r := by rw [if_neg (show ¬ (false = true) by decide)] at H; exact H
        clear H
        have H := H1
        clear H1
        replace H := Option.bind_eq_some_iff.mp H
        obtain ⟨t230, A260, H⟩ := H
        replace H : (dragomanlaw11_CondOwn.j0 k t230 a0_0 l0_1 l0_2 l0_3 a0_4 a0_5 a1_0 a1_1 l1_2 l1_3 a1_4 a1_5 a1_6 a1_7 a2_0 a2_1 l2_2 l2_3 a2_4 a2_5 a2_6 a2_7) = some r := H
        have A26 := aM A260
        clear A260
        have H' := aM H
        clear H
        have hnb27 := NB224_225.out
        have hnc27 := NB225_224.out
        have hnb28 := NB224_226.out
        have hnc28 := NB226_224.out
        have hcz29_0 : w10.cell? ⟨gb224, 0, none⟩ = some (.int .i64 a0_0) := (blk_cell BK224.out 0).trans rfl
        have hcz29_1 : w10.cell? ⟨gb224, 1, none⟩ = some (.slice A0_1 l0_1.length c0_1) := (blk_cell BK224.out 1).trans rfl
        have hcz29_2 : w10.cell? ⟨gb224, 2, none⟩ = some (.slice A0_2 l0_2.length c0_2) := (blk_cell BK224.out 2).trans rfl
        have hcz29_3 : w10.cell? ⟨gb224, 3, none⟩ = some (.slice A0_3 l0_3.length c0_3) := (blk_cell BK224.out 3).trans rfl
        have hcz29_4 : w10.cell? ⟨gb224, 4, none⟩ = some (.int .u32 a0_4) := (blk_cell BK224.out 4).trans rfl
        have hcz29_5 : w10.cell? ⟨gb224, 5, none⟩ = some (.int .u32 a0_5) := (blk_cell BK224.out 5).trans rfl
        have hfz29_0 := bF BK224.out 0
        have hfz29_1 := bF BK224.out 1
        have hfz29_2 := bF BK224.out 2
        have hfz29_3 := bF BK224.out 3
        have hfz29_4 := bF BK224.out 4
        have hfz29_5 := bF BK224.out 5
        go_wp2_with (first | ((with_reducible refine gate_callee (f := 28) rfl ?_); refine goesL_ (some 12) rfl rfl Try.func28 (by kernel_rfl) rfl #[.agg #[.int .i64 a0_0, .slice A0_1 l0_1.length c0_1, .slice A0_2 l0_2.length c0_2, .slice A0_3 l0_3.length c0_3, .int .u32 a0_4, .int .u32 a0_5]] rfl (by (try simp only [List.map_toArray, List.map_cons, List.map_nil]); first | done | rfl | (simp only [List.length_drop, List.length_take]; rfl)) ?_; (with_reducible refine (dragomanref11_Great.calls k a0_0 _ _ l0_1 _ _ l0_2 _ _ l0_3 a0_4 a0_5 false _ ?side1 ?side2 ?side3 ?side4 ?side5 ?side6 A11.out).mono ?_); (case side1 => repeat (first | exact (Kd.C_below HR0_1.out HB.out) | (with_reducible refine Kd.C_alloc ?_ _) | (with_reducible refine Kd.C_drewN ?_ _) | (with_reducible refine Kd.C_drew ?_))); (case side2 => exact HC0_1.out); (case side3 => repeat (first | exact (Kd.C_below HR0_2.out HB.out) | (with_reducible refine Kd.C_alloc ?_ _) | (with_reducible refine Kd.C_drewN ?_ _) | (with_reducible refine Kd.C_drew ?_))); (case side4 => exact HC0_2.out); (case side5 => repeat (first | exact (Kd.C_below HR0_3.out HB.out) | (with_reducible refine Kd.C_alloc ?_ _) | (with_reducible refine Kd.C_drewN ?_ _) | (with_reducible refine Kd.C_drew ?_))); (case side6 => exact HC0_3.out); rintro e w30 ⟨rfl, hb⟩; refine ⟨_, rfl, ?_⟩; have n0_ := aM (blk_below (g := gb224) (o := .cells #[.int .i64 a0_0, .slice A0_1 l0_1.length c0_1, .slice A0_2 l0_2.length c0_2, .slice A0_3 l0_3.length c0_3, .int .u32 a0_4, .int .u32 a0_5] 46 (0, 0)) (up_ BK224.out) hb); have n1_ := aM (blk_below (g := gb225) (o := .cells #[.int .u32 a1_0, .int .i64 a1_1, .slice A1_2 l1_2.length c1_2, .slice A1_3 l1_3.length c1_3, .int .u32 a1_4, .int .u32 a1_5, .int .i64 a1_6, .int .u32 a1_7] 50 (0, 0)) (up_ BK225.out) hb); have n2_ := aM (blk_below (g := gb226) (o := .cells #[.int .u32 a2_0, .int .i64 a2_1, .slice A2_2 l2_2.length c2_2, .slice A2_3 l2_3.length c2_3, .int .u32 a2_4, .int .u32 a2_5, .int .i64 a2_6, .int .u32 a2_7] 50 (0, 0)) (up_ BK226.out) hb); have n3_ := aM (below_step (bw_ HB.out) hb); clear BK224; clear BK225; clear BK226; clear HB; have BK224 := n0_; have BK225 := n1_; have BK226 := n2_; have HB := n3_; clear n0_ n1_ n2_ n3_; clear hb; have hnb31 := NB225_226.out; have hnc31 := NB226_225.out; have hcz32_0 : w30.cell? ⟨gb225, 0, none⟩ = some (.int .u32 a1_0) := (blk_cell BK225.out 0).trans rfl; have hcz32_1 : w30.cell? ⟨gb225, 1, none⟩ = some (.int .i64 a1_1) := (blk_cell BK225.out 1).trans rfl; have hcz32_2 : w30.cell? ⟨gb225, 2, none⟩ = some (.slice A1_2 l1_2.length c1_2) := (blk_cell BK225.out 2).trans rfl; have hcz32_3 : w30.cell? ⟨gb225, 3, none⟩ = some (.slice A1_3 l1_3.length c1_3) := (blk_cell BK225.out 3).trans rfl; have hcz32_4 : w30.cell? ⟨gb225, 4, none⟩ = some (.int .u32 a1_4) := (blk_cell BK225.out 4).trans rfl; have hcz32_5 : w30.cell? ⟨gb225, 5, none⟩ = some (.int .u32 a1_5) := (blk_cell BK225.out 5).trans rfl; have hcz32_6 : w30.cell? ⟨gb225, 6, none⟩ = some (.int .i64 a1_6) := (blk_cell BK225.out 6).trans rfl; have hcz32_7 : w30.cell? ⟨gb225, 7, none⟩ = some (.int .u32 a1_7) := (blk_cell BK225.out 7).trans rfl; have hfz32_0 := bF BK225.out 0; have hfz32_1 := bF BK225.out 1; have hfz32_2 := bF BK225.out 2; have hfz32_3 := bF BK225.out 3; have hfz32_4 := bF BK225.out 4; have hfz32_5 := bF BK225.out 5; have hfz32_6 := bF BK225.out 6; have hfz32_7 := bF BK225.out 7) | (go_at_call 29; (with_reducible refine (r3_Great.calls a1_0 a1_1 _ _ l1_2 _ _ l1_3 a1_4 a1_5 a1_6 a1_7 false _ ?side1 ?side2 ?side3 ?side4 A17.out).mono ?_); (case side1 => repeat (first | exact (Kd.C_below HR1_2.out HB.out) | (with_reducible refine Kd.C_alloc ?_ _) | (with_reducible refine Kd.C_drewN ?_ _) | (with_reducible refine Kd.C_drew ?_))); (case side2 => exact HC1_2.out); (case side3 => repeat (first | exact (Kd.C_below HR1_3.out HB.out) | (with_reducible refine Kd.C_alloc ?_ _) | (with_reducible refine Kd.C_drewN ?_ _) | (with_reducible refine Kd.C_drew ?_))); (case side4 => exact HC1_3.out); rintro e w33 ⟨rfl, hb⟩; have n0_ := aM (blk_below (g := gb224) (o := .cells #[.int .i64 a0_0, .slice A0_1 l0_1.length c0_1, .slice A0_2 l0_2.length c0_2, .slice A0_3 l0_3.length c0_3, .int .u32 a0_4, .int .u32 a0_5] 46 (0, 0)) (up_ BK224.out) hb); have n1_ := aM (blk_below (g := gb225) (o := .cells #[.int .u32 a1_0, .int .i64 a1_1, .slice A1_2 l1_2.length c1_2, .slice A1_3 l1_3.length c1_3, .int .u32 a1_4, .int .u32 a1_5, .int .i64 a1_6, .int .u32 a1_7] 50 (0, 0)) (up_ BK225.out) hb); have n2_ := aM (blk_below (g := gb226) (o := .cells #[.int .u32 a2_0, .int .i64 a2_1, .slice A2_2 l2_2.length c2_2, .slice A2_3 l2_3.length c2_3, .int .u32 a2_4, .int .u32 a2_5, .int .i64 a2_6, .int .u32 a2_7] 50 (0, 0)) (up_ BK226.out) hb); have n3_ := aM (below_step (bw_ HB.out) hb); clear BK224; clear BK225; clear BK226; clear HB; have BK224 := n0_; have BK225 := n1_; have BK226 := n2_; have HB := n3_; clear n0_ n1_ n2_ n3_; clear hb; have hcz34_0 : w33.cell? ⟨gb226, 0, none⟩ = some (.int .u32 a2_0) := (blk_cell BK226.out 0).trans rfl; have hcz34_1 : w33.cell? ⟨gb226, 1, none⟩ = some (.int .i64 a2_1) := (blk_cell BK226.out 1).trans rfl; have hcz34_2 : w33.cell? ⟨gb226, 2, none⟩ = some (.slice A2_2 l2_2.length c2_2) := (blk_cell BK226.out 2).trans rfl; have hcz34_3 : w33.cell? ⟨gb226, 3, none⟩ = some (.slice A2_3 l2_3.length c2_3) := (blk_cell BK226.out 3).trans rfl; have hcz34_4 : w33.cell? ⟨gb226, 4, none⟩ = some (.int .u32 a2_4) := (blk_cell BK226.out 4).trans rfl; have hcz34_5 : w33.cell? ⟨gb226, 5, none⟩ = some (.int .u32 a2_5) := (blk_cell BK226.out 5).trans rfl; have hcz34_6 : w33.cell? ⟨gb226, 6, none⟩ = some (.int .i64 a2_6) := (blk_cell BK226.out 6).trans rfl; have hcz34_7 : w33.cell? ⟨gb226, 7, none⟩ = some (.int .u32 a2_7) := (blk_cell BK226.out 7).trans rfl; have hfz34_0 := bF BK226.out 0; have hfz34_1 := bF BK226.out 1; have hfz34_2 := bF BK226.out 2; have hfz34_3 := bF BK226.out 3; have hfz34_4 := bF BK226.out 4; have hfz34_5 := bF BK226.out 5; have hfz34_6 := bF BK226.out 6; have hfz34_7 := bF BK226.out 7) | (go_at_call 29; (with_reducible refine (r3_Great.calls a2_0 a2_1 _ _ l2_2 _ _ l2_3 a2_4 a2_5 a2_6 a2_7 t230 _ ?side1 ?side2 ?side3 ?side4 A26.out).mono ?_); (case side1 => repeat (first | exact (Kd.C_below HR2_2.out HB.out) | (with_reducible refine Kd.C_alloc ?_ _) | (with_reducible refine Kd.C_drewN ?_ _) | (with_reducible refine Kd.C_drew ?_))); (case side2 => exact HC2_2.out); (case side3 => repeat (first | exact (Kd.C_below HR2_3.out HB.out) | (with_reducible refine Kd.C_alloc ?_ _) | (with_reducible refine Kd.C_drewN ?_ _) | (with_reducible refine Kd.C_drew ?_))); (case side4 => exact HC2_3.out); rintro e w35 ⟨rfl, hb⟩; have n0_ := aM (blk_below (g := gb224) (o := .cells #[.int .i64 a0_0, .slice A0_1 l0_1.length c0_1, .slice A0_2 l0_2.length c0_2, .slice A0_3 l0_3.length c0_3, .int .u32 a0_4, .int .u32 a0_5] 46 (0, 0)) (up_ BK224.out) hb); have n1_ := aM (blk_below (g := gb225) (o := .cells #[.int .u32 a1_0, .int .i64 a1_1, .slice A1_2 l1_2.length c1_2, .slice A1_3 l1_3.length c1_3, .int .u32 a1_4, .int .u32 a1_5, .int .i64 a1_6, .int .u32 a1_7] 50 (0, 0)) (up_ BK225.out) hb); have n2_ := aM (blk_below (g := gb226) (o := .cells #[.int .u32 a2_0, .int .i64 a2_1, .slice A2_2 l2_2.length c2_2, .slice A2_3 l2_3.length c2_3, .int .u32 a2_4, .int .u32 a2_5, .int .i64 a2_6, .int .u32 a2_7] 50 (0, 0)) (up_ BK226.out) hb); have n3_ := aM (below_step (bw_ HB.out) hb); clear BK224; clear BK225; clear BK226; clear HB; have BK224 := n0_; have BK225 := n1_; have BK226 := n2_; have HB := n3_; clear n0_ n1_ n2_ n3_; (try clear hb); (try clear hb2); (try clear hk); (try clear hi)))
        go_meet
        case rel => exact ⟨_, (t230), (by first | rfl | (simp; done) | (simp [*]; done)), H', ⟨by first | omega | exact Nat.le_refl _⟩, ⟨by (with_reducible repeat (first | apply bkN | apply bkD | apply bkA)); exact BK224.out⟩, ⟨by (with_reducible repeat (first | apply bkN | apply bkD | apply bkA)); exact BK225.out⟩, ⟨by (with_reducible repeat (first | apply bkN | apply bkD | apply bkA)); exact BK226.out⟩, ⟨by repeat (first | (with_reducible first | exact HB.out | apply blA | apply blN | apply blD | refine bS ?_ GE224.out | refine bS ?_ GE225.out | refine bS ?_ GE226.out) | exact HB.out)⟩⟩
   case rest =>
    clear HC6
    obtain ⟨kq, x20_5, rfl, HA, HJ5, BK224, BK225, BK226, HB⟩ := hcut
    cases kq with
    | zero => exact absurd HA.out (by simp [dragomanlaw11_CondOwn.j0])
    | succ kj5 =>
     have H := HA.out
     clear HA
     simp only [dragomanlaw11_CondOwn.j0] at H
     by_cases c36 : x20_5 = true
     · subst c36
       have H1 : (some true) = some r := by rw [if_pos rfl] at H; exact H
       clear H
       have H := H1
       clear H1
       obtain rfl := Option.some.inj H
       go_wp2
       first | go_ret | refine ⟨_, results_tmp rfl _ _ _, ?_⟩
       exact ⟨by first | rfl | (simp [errW_none, errW_some] <;> rfl) | (simp [*, errW_none, errW_some] <;> rfl), by repeat (first | (with_reducible first | exact HB.out | apply blA | apply blN | apply blD | refine bS ?_ GE224.out | refine bS ?_ GE225.out | refine bS ?_ GE226.out) | exact HB.out)⟩
     · replace c36 := Bool.eq_false_iff.mpr c36
       subst c36
       have H1 : ((r3_Copy.f a2_0 a2_1 l2_2 l2_3 a2_4 a2_5 a2_6 a2_7).bind fun bt231 => (if a0_0 = 1 then ((cond_Holds.f kj5 a0_0 l0_1 ([] : List (S61)) ([] : List (S64)) 0 0 a1_0 a1_1 bt231.2.2.1 bt231.2.2.2.1 bt231.2.2.2.2.1 bt231.2.2.2.2.2.1 bt231.2.2.2.2.2.2.1 bt231.2.2.2.2.2.2.2).bind fun t245 => ((cond_Holds.f kj5 a0_0 l0_1 l0_2 l0_3 a0_4 a0_5 a1_0 a1_1 l1_2 l1_3 a1_4 a1_5 a1_6 a1_7).bind fun t246 => (some (t245 == t246)))) else (if a0_0 = 2 then ((cond_Holds.f kj5 a0_0 ([] : List (S83)) l0_2 ([] : List (S64)) 0 0 bt231.1 bt231.2.1 l1_2 bt231.2.2.2.1 bt231.2.2.2.2.1 bt231.2.2.2.2.2.1 bt231.2.2.2.2.2.2.1 bt231.2.2.2.2.2.2.2).bind fun t247 => ((cond_Holds.f kj5 a0_0 l0_1 l0_2 l0_3 a0_4 a0_5 a1_0 a1_1 l1_2 l1_3 a1_4 a1_5 a1_6 a1_7).bind fun t248 => (some (t247 == t248)))) else (if a0_0 = 3 then ((cond_Holds.f kj5 a0_0 ([] : List (S83)) ([] : List (S61)) l0_3 0 0 bt231.1 bt231.2.1 bt231.2.2.1 l1_3 bt231.2.2.2.2.1 bt231.2.2.2.2.2.1 bt231.2.2.2.2.2.2.1 bt231.2.2.2.2.2.2.2).bind fun t249 => ((cond_Holds.f kj5 a0_0 l0_1 l0_2 l0_3 a0_4 a0_5 a1_0 a1_1 l1_2 l1_3 a1_4 a1_5 a1_6 a1_7).bind fun t250 => (some (t249 == t250)))) else (if a0_0 = 7 then ((cond_Holds.f kj5 a0_0 l0_1 ([] : List (S61)) ([] : List (S64)) 0 0 bt231.1 bt231.2.1 bt231.2.2.1 bt231.2.2.2.1 bt231.2.2.2.2.1 bt231.2.2.2.2.2.1 bt231.2.2.2.2.2.2.1 a1_7).bind fun t251 => ((cond_Holds.f kj5 a0_0 l0_1 l0_2 l0_3 a0_4 a0_5 a1_0 a1_1 l1_2 l1_3 a1_4 a1_5 a1_6 a1_7).bind fun t252 => (some (t251 == t252)))) else ((cond_Holds.f kj5 a0_0 ([] : List (S83)) ([] : List (S61)) ([] : List (S64)) a0_4 a0_5 bt231.1 bt231.2.1 bt231.2.2.1 bt231.2.2.2.1 a1_4 a1_5 a1_6 bt231.2.2.2.2.2.2.2).bind fun t253 => ((cond_Holds.f kj5 a0_0 l0_1 l0_2 l0_3 a0_4 a0_5 a1_0 a1_1 l1_2 l1_3 a1_4 a1_5 a1_6 a1_7).bind fun t254 => (some (t253 == t254))))))))) = some r := by rw [if_neg (show ¬ (false = true) by decide)] at H; exact H
       clear H
       have H := H1
       clear H1
       replace H := Option.bind_eq_some_iff.mp H
       obtain ⟨⟨t231, t232, t233, t236, t239, t240, t241, t242⟩, A370, H⟩ := H
       replace H : (if a0_0 = 1 then ((cond_Holds.f kj5 a0_0 l0_1 ([] : List (S61)) ([] : List (S64)) 0 0 a1_0 a1_1 t233 t236 t239 t240 t241 t242).bind fun t245 => ((cond_Holds.f kj5 a0_0 l0_1 l0_2 l0_3 a0_4 a0_5 a1_0 a1_1 l1_2 l1_3 a1_4 a1_5 a1_6 a1_7).bind fun t246 => (some (t245 == t246)))) else (if a0_0 = 2 then ((cond_Holds.f kj5 a0_0 ([] : List (S83)) l0_2 ([] : List (S64)) 0 0 t231 t232 l1_2 t236 t239 t240 t241 t242).bind fun t247 => ((cond_Holds.f kj5 a0_0 l0_1 l0_2 l0_3 a0_4 a0_5 a1_0 a1_1 l1_2 l1_3 a1_4 a1_5 a1_6 a1_7).bind fun t248 => (some (t247 == t248)))) else (if a0_0 = 3 then ((cond_Holds.f kj5 a0_0 ([] : List (S83)) ([] : List (S61)) l0_3 0 0 t231 t232 t233 l1_3 t239 t240 t241 t242).bind fun t249 => ((cond_Holds.f kj5 a0_0 l0_1 l0_2 l0_3 a0_4 a0_5 a1_0 a1_1 l1_2 l1_3 a1_4 a1_5 a1_6 a1_7).bind fun t250 => (some (t249 == t250)))) else (if a0_0 = 7 then ((cond_Holds.f kj5 a0_0 l0_1 ([] : List (S61)) ([] : List (S64)) 0 0 t231 t232 t233 t236 t239 t240 t241 a1_7).bind fun t251 => ((cond_Holds.f kj5 a0_0 l0_1 l0_2 l0_3 a0_4 a0_5 a1_0 a1_1 l1_2 l1_3 a1_4 a1_5 a1_6 a1_7).bind fun t252 => (some (t251 == t252)))) else ((cond_Holds.f kj5 a0_0 ([] : List (S83)) ([] : List (S61)) ([] : List (S64)) a0_4 a0_5 t231 t232 t233 t236 a1_4 a1_5 a1_6 t242).bind fun t253 => ((cond_Holds.f kj5 a0_0 l0_1 l0_2 l0_3 a0_4 a0_5 a1_0 a1_1 l1_2 l1_3 a1_4 a1_5 a1_6 a1_7).bind fun t254 => (some (t253 == t254)))))))) = some r := H
       have A37 := aM A370
       clear A370
       try go_wp2
       have n0_ := aM (blk_drew BK224.out)
       have n1_ := aM (blk_drew BK225.out)
       have n2_ := aM (blk_drew BK226.out)
       have n3_ := aM (below_drew1 HB.out)
       clear BK224
       clear BK225
       clear BK226
       clear HB
       have BK224 := n0_
       have BK225 := n1_
       have BK226 := n2_
       have HB := n3_
       clear n0_ n1_ n2_ n3_
       refine start_ (n := 9) (S := fun w' => True) (ds := []) (tf 0 9) (by kernel_rfl) rfl rfl trivial (fun hHeld => ?_); refine with_tabW dragomanlaw11_CondOwn.tab5 dragomanlaw11_CondOwn.bits5 (fun HT_ HW_ => ?_)
       generalize wc.drew = w41 at BK224 BK225 BK226 HB hHeld ⊢
       refine pure_ (i := 0) (N := some 21) (v := ?_) (a' := ?_) (tf 1 8) rfl rfl (any_of HT_.out (by kernel_rfl)) (fun _ _ _ h => h) (Or.inl ⟨by rfl, ?_⟩) ?_ ?_
       rotate_left
       · intro w'
         go_simp
         with_reducible rfl
       rotate_left
       · simp only [Act.put, sT, sZ, sS, i64_w, i32_w]
         rfl
       refine inv_at [1, 2, 3, 4, 5, 6, 7, 8] (fun a0_ b a w' => ∃ (v234 : Value) (v237 : Value) (gb243 : Nat) (gb244 : Nat) (m4_ : Value) (m5_ : Value) (m6_ : Value), a = putSel a0_ b [(1, 22, .int .i64 a0_0), (2, 23, .agg #[.int .i64 a0_0, .slice none 0 0, .slice none 0 0, .slice none 0 0, .int .u32 0, .int .u32 0]), (3, 24, .agg #[.int .u32 a2_0, .int .i64 a2_1, .slice A2_2 l2_2.length c2_2, .slice A2_3 l2_3.length c2_3, .int .u32 a2_4, .int .u32 a2_5, .int .i64 a2_6, .int .u32 a2_7]), (4, 25, m4_), (5, 7, m5_), (6, 8, m6_)] ∧ (w'.heap[gb224]? = some (.cells #[.int .i64 a0_0, .slice A0_1 l0_1.length c0_1, .slice A0_2 l0_2.length c0_2, .slice A0_3 l0_3.length c0_3, .int .u32 a0_4, .int .u32 a0_5] 46 (0, 0))) ∧ (w'.heap[gb225]? = some (.cells #[.int .u32 a1_0, .int .i64 a1_1, .slice A1_2 l1_2.length c1_2, .slice A1_3 l1_3.length c1_3, .int .u32 a1_4, .int .u32 a1_5, .int .i64 a1_6, .int .u32 a1_7] 50 (0, 0))) ∧ (w'.heap[gb226]? = some (.cells #[.int .u32 a2_0, .int .i64 a2_1, .slice A2_2 l2_2.length c2_2, .slice A2_3 l2_3.length c2_3, .int .u32 a2_4, .int .u32 a2_5, .int .i64 a2_6, .int .u32 a2_7] 50 (0, 0))) ∧ (Below w.heap.size w w') ∧ (b 5 = true → b 6 = true → gb244 ≠ gb243) ∧ (b 5 = true → b 6 = true → gb243 ≠ gb244) ∧ (b 4 = true → Kd.R (Kd.int .u32) 36 w' w.heap.size (fun k_ => some k_ ≠ v237.ownBlock) v234 t233) ∧ (b 4 = true → Kd.R (Kd.int .u32) 36 w' w.heap.size (fun k_ => some k_ ≠ v234.ownBlock) v237 t236) ∧ (b 5 = true → b 7 = false → w'.heap[gb243]? = some (.cells #[.int .i64 0, .slice none 0 0, .slice none 0 0, .slice none 0 0, .int .u32 0, .int .u32 0] 46 (0, 0))) ∧ (b 5 = true → w.heap.size ≤ gb243) ∧ (b 5 = true → w.heap.size ≤ gb243) ∧ (b 5 = true → gb224 ≠ gb243) ∧ (b 5 = true → gb243 ≠ gb224) ∧ (b 5 = true → gb225 ≠ gb243) ∧ (b 5 = true → gb243 ≠ gb225) ∧ (b 5 = true → gb226 ≠ gb243) ∧ (b 5 = true → gb243 ≠ gb226) ∧ (b 6 = true → b 8 = false → w'.heap[gb244]? = some (.cells #[.int .u32 0, .int .i64 0, .slice none 0 0, .slice none 0 0, .int .u32 0, .int .u32 0, .int .i64 0, .int .u32 0] 50 (0, 0))) ∧ (b 6 = true → w.heap.size ≤ gb244) ∧ (b 6 = true → w.heap.size ≤ gb244) ∧ (b 6 = true → gb224 ≠ gb244) ∧ (b 6 = true → gb244 ≠ gb224) ∧ (b 6 = true → gb225 ≠ gb244) ∧ (b 6 = true → gb244 ≠ gb225) ∧ (b 6 = true → gb226 ≠ gb244) ∧ (b 6 = true → gb244 ≠ gb226) ∧ (b 7 = true → w'.heap[gb243]? = some (.cells #[.int .i64 a0_0, .slice none 0 0, .slice none 0 0, .slice none 0 0, .int .u32 0, .int .u32 0] 46 (0, 0))) ∧ (b 8 = true → w'.heap[gb244]? = some (.cells #[.int .u32 t231, .int .i64 t232, v234, v237, .int .u32 t239, .int .u32 t240, .int .i64 t241, .int .u32 t242] 50 (0, 0))) ∧ (b 4 = true → (m4_ : Value) = .agg #[.int .u32 t231, .int .i64 t232, v234, v237, .int .u32 t239, .int .u32 t240, .int .i64 t241, .int .u32 t242]) ∧ (b 5 = true → (m5_ : Value) = .pointer (some ⟨gb243, 0, none⟩)) ∧ (b 6 = true → (m6_ : Value) = .pointer (some ⟨gb244, 0, none⟩))) HT_.out HW_.out (by kernel_rfl) (by kernel_rfl) ?_ ?_ ?_
       · exact ⟨.bool false, .bool false, 0, 0, .bool false, .bool false, .bool false, by simp only [putSel, Bool.false_eq_true, if_false], BK224.out, BK225.out, BK226.out, HB.out, fun h_ => absurd h_ (by decide), fun h_ => absurd h_ (by decide), fun h_ => absurd h_ (by decide), fun h_ => absurd h_ (by decide), fun h_ => absurd h_ (by decide), fun h_ => absurd h_ (by decide), fun h_ => absurd h_ (by decide), fun h_ => absurd h_ (by decide), fun h_ => absurd h_ (by decide), fun h_ => absurd h_ (by decide), fun h_ => absurd h_ (by decide), fun h_ => absurd h_ (by decide), fun h_ => absurd h_ (by decide), fun h_ => absurd h_ (by decide), fun h_ => absurd h_ (by decide), fun h_ => absurd h_ (by decide), fun h_ => absurd h_ (by decide), fun h_ => absurd h_ (by decide), fun h_ => absurd h_ (by decide), fun h_ => absurd h_ (by decide), fun h_ => absurd h_ (by decide), fun h_ => absurd h_ (by decide), fun h_ => absurd h_ (by decide), fun h_ => absurd h_ (by decide), fun h_ => absurd h_ (by decide), fun h_ => absurd h_ (by decide), fun h_ => absurd h_ (by decide)⟩
       · skip
         clear BK224 BK225 BK226 HB
         refine steps_cons ?_ ?_
         · rintro b a w' ⟨v234, v237, gb243, gb244, m4_, m5_, m6_, ha, Q_BK224, Q_BK225, Q_BK226, Q_HB, Q_NB244_243, Q_NB243_244, Q_HO235, Q_HO238, Q_BK243, Q_GW243, Q_GE243, Q_NB224_243, Q_NB243_224, Q_NB225_243, Q_NB243_225, Q_NB226_243, Q_NB243_226, Q_BK244, Q_GW244, Q_GE244, Q_NB224_244, Q_NB244_224, Q_NB225_244, Q_NB244_225, Q_NB226_244, Q_NB244_226, Q_BK243_e7, Q_BK244_e8, Q_X4_, Q_X5_, Q_X6_⟩ hb_ hon hoff
           refine ⟨_, rfl, fun K hK => ?_⟩
           have e21 : a.tmps[21]? = some (.pointer (some ⟨gb224, 0, none⟩)) := by rw [ha]; exact (putSel_off rfl).trans rfl
           replace ha := aM ha
           have BK224 := aM Q_BK224
           have BK225 := aM Q_BK225
           have BK226 := aM Q_BK226
           have HB := aM Q_HB
           have hc0_ : w'.cell? ⟨gb224, 0, none⟩ = some (.int .i64 a0_0) := (blk_cell BK224.out 0).trans rfl
           have hc1_ : w'.cell? ⟨gb224, 1, none⟩ = some (.slice A0_1 l0_1.length c0_1) := (blk_cell BK224.out 1).trans rfl
           have hc2_ : w'.cell? ⟨gb224, 2, none⟩ = some (.slice A0_2 l0_2.length c0_2) := (blk_cell BK224.out 2).trans rfl
           have hc3_ : w'.cell? ⟨gb224, 3, none⟩ = some (.slice A0_3 l0_3.length c0_3) := (blk_cell BK224.out 3).trans rfl
           have hc4_ : w'.cell? ⟨gb224, 4, none⟩ = some (.int .u32 a0_4) := (blk_cell BK224.out 4).trans rfl
           have hc5_ : w'.cell? ⟨gb224, 5, none⟩ = some (.int .u32 a0_5) := (blk_cell BK224.out 5).trans rfl
           refine value_ (w1 := w') (v := .int .i64 a0_0) (by rfl) rfl ?_ ?_
           · go_simp
             (try simp only [i64_w])
             try rfl
           refine hK.out _ _ ⟨v234, v237, gb243, gb244, m4_, m5_, m6_, (by rw [ha.out]; exact putSel_upk 0 hb_ rfl rfl rfl), Q_BK224, Q_BK225, Q_BK226, Q_HB, Q_NB244_243, Q_NB243_244, Q_HO235, Q_HO238, Q_BK243, Q_GW243, Q_GE243, Q_NB224_243, Q_NB243_224, Q_NB225_243, Q_NB243_225, Q_NB226_243, Q_NB243_226, Q_BK244, Q_GW244, Q_GE244, Q_NB224_244, Q_NB244_224, Q_NB225_244, Q_NB244_225, Q_NB226_244, Q_NB244_226, fun h0_ => absurd ((hoff 7 (by kernel_rfl)).symm.trans h0_) (by decide), fun h0_ => absurd ((hoff 8 (by kernel_rfl)).symm.trans h0_) (by decide), Q_X4_, Q_X5_, Q_X6_⟩
         refine steps_cons ?_ ?_
         · rintro b a w' ⟨v234, v237, gb243, gb244, m4_, m5_, m6_, ha, Q_BK224, Q_BK225, Q_BK226, Q_HB, Q_NB244_243, Q_NB243_244, Q_HO235, Q_HO238, Q_BK243, Q_GW243, Q_GE243, Q_NB224_243, Q_NB243_224, Q_NB225_243, Q_NB243_225, Q_NB226_243, Q_NB243_226, Q_BK244, Q_GW244, Q_GE244, Q_NB224_244, Q_NB244_224, Q_NB225_244, Q_NB244_225, Q_NB226_244, Q_NB244_226, Q_BK243_e7, Q_BK244_e8, Q_X4_, Q_X5_, Q_X6_⟩ hb_ hon hoff
           refine ⟨_, rfl, fun K hK => ?_⟩
           have e22 : a.tmps[22]? = some (.int .i64 a0_0) := by rw [ha]; exact putSel_on (e := (1, 22, .int .i64 a0_0)) 0 rfl rfl (hon 1 (by kernel_rfl)) rfl
           replace ha := aM ha
           have BK224 := aM Q_BK224
           have BK225 := aM Q_BK225
           have BK226 := aM Q_BK226
           have HB := aM Q_HB
           refine value_ (w1 := w') (v := .agg #[.int .i64 a0_0, .slice none 0 0, .slice none 0 0, .slice none 0 0, .int .u32 0, .int .u32 0]) (by rfl) rfl ?_ ?_
           · go_simp
             (try simp only [i64_w])
             try rfl
           refine hK.out _ _ ⟨v234, v237, gb243, gb244, m4_, m5_, m6_, (by rw [ha.out]; exact putSel_upk 1 hb_ rfl rfl rfl), Q_BK224, Q_BK225, Q_BK226, Q_HB, Q_NB244_243, Q_NB243_244, Q_HO235, Q_HO238, Q_BK243, Q_GW243, Q_GE243, Q_NB224_243, Q_NB243_224, Q_NB225_243, Q_NB243_225, Q_NB226_243, Q_NB243_226, Q_BK244, Q_GW244, Q_GE244, Q_NB224_244, Q_NB244_224, Q_NB225_244, Q_NB244_225, Q_NB226_244, Q_NB244_226, fun h0_ => absurd ((hoff 7 (by kernel_rfl)).symm.trans h0_) (by decide), fun h0_ => absurd ((hoff 8 (by kernel_rfl)).symm.trans h0_) (by decide), Q_X4_, Q_X5_, Q_X6_⟩
         refine steps_cons ?_ ?_
         · rintro b a w' ⟨v234, v237, gb243, gb244, m4_, m5_, m6_, ha, Q_BK224, Q_BK225, Q_BK226, Q_HB, Q_NB244_243, Q_NB243_244, Q_HO235, Q_HO238, Q_BK243, Q_GW243, Q_GE243, Q_NB224_243, Q_NB243_224, Q_NB225_243, Q_NB243_225, Q_NB226_243, Q_NB243_226, Q_BK244, Q_GW244, Q_GE244, Q_NB224_244, Q_NB244_224, Q_NB225_244, Q_NB244_225, Q_NB226_244, Q_NB244_226, Q_BK243_e7, Q_BK244_e8, Q_X4_, Q_X5_, Q_X6_⟩ hb_ hon hoff
           refine ⟨_, rfl, fun K hK => ?_⟩
           have e5 : a.tmps[5]? = some (.pointer (some ⟨gb226, 0, none⟩)) := by rw [ha]; exact (putSel_off rfl).trans rfl
           replace ha := aM ha
           have BK224 := aM Q_BK224
           have BK225 := aM Q_BK225
           have BK226 := aM Q_BK226
           have HB := aM Q_HB
           have hc0_ : w'.cell? ⟨gb226, 0, none⟩ = some (.int .u32 a2_0) := (blk_cell BK226.out 0).trans rfl
           have hc1_ : w'.cell? ⟨gb226, 1, none⟩ = some (.int .i64 a2_1) := (blk_cell BK226.out 1).trans rfl
           have hc2_ : w'.cell? ⟨gb226, 2, none⟩ = some (.slice A2_2 l2_2.length c2_2) := (blk_cell BK226.out 2).trans rfl
           have hc3_ : w'.cell? ⟨gb226, 3, none⟩ = some (.slice A2_3 l2_3.length c2_3) := (blk_cell BK226.out 3).trans rfl
           have hc4_ : w'.cell? ⟨gb226, 4, none⟩ = some (.int .u32 a2_4) := (blk_cell BK226.out 4).trans rfl
           have hc5_ : w'.cell? ⟨gb226, 5, none⟩ = some (.int .u32 a2_5) := (blk_cell BK226.out 5).trans rfl
           have hc6_ : w'.cell? ⟨gb226, 6, none⟩ = some (.int .i64 a2_6) := (blk_cell BK226.out 6).trans rfl
           have hc7_ : w'.cell? ⟨gb226, 7, none⟩ = some (.int .u32 a2_7) := (blk_cell BK226.out 7).trans rfl
           refine value_ (w1 := w') (v := .agg #[.int .u32 a2_0, .int .i64 a2_1, .slice A2_2 l2_2.length c2_2, .slice A2_3 l2_3.length c2_3, .int .u32 a2_4, .int .u32 a2_5, .int .i64 a2_6, .int .u32 a2_7]) (by rfl) rfl ?_ ?_
           · go_simp
             (try simp only [i64_w])
             try rfl
           refine hK.out _ _ ⟨v234, v237, gb243, gb244, m4_, m5_, m6_, (by rw [ha.out]; exact putSel_upk 2 hb_ rfl rfl rfl), Q_BK224, Q_BK225, Q_BK226, Q_HB, Q_NB244_243, Q_NB243_244, fun h0_ => absurd ((hoff 4 (by kernel_rfl)).symm.trans h0_) (by decide), fun h0_ => absurd ((hoff 4 (by kernel_rfl)).symm.trans h0_) (by decide), Q_BK243, Q_GW243, Q_GE243, Q_NB224_243, Q_NB243_224, Q_NB225_243, Q_NB243_225, Q_NB226_243, Q_NB243_226, Q_BK244, Q_GW244, Q_GE244, Q_NB224_244, Q_NB244_224, Q_NB225_244, Q_NB244_225, Q_NB226_244, Q_NB244_226, fun h0_ => absurd ((hoff 7 (by kernel_rfl)).symm.trans h0_) (by decide), fun h0_ => absurd ((hoff 8 (by kernel_rfl)).symm.trans h0_) (by decide), fun h0_ => absurd ((hoff 4 (by kernel_rfl)).symm.trans h0_) (by decide), Q_X5_, Q_X6_⟩
         refine steps_cons ?_ ?_
         · rintro b a w' ⟨v234, v237, gb243, gb244, m4_, m5_, m6_, ha, Q_BK224, Q_BK225, Q_BK226, Q_HB, Q_NB244_243, Q_NB243_244, Q_HO235, Q_HO238, Q_BK243, Q_GW243, Q_GE243, Q_NB224_243, Q_NB243_224, Q_NB225_243, Q_NB243_225, Q_NB226_243, Q_NB243_226, Q_BK244, Q_GW244, Q_GE244, Q_NB224_244, Q_NB244_224, Q_NB225_244, Q_NB244_225, Q_NB226_244, Q_NB244_226, Q_BK243_e7, Q_BK244_e8, Q_X4_, Q_X5_, Q_X6_⟩ hb_ hon hoff
           refine ⟨_, rfl, fun K hK => ?_⟩
           have e24 : a.tmps[24]? = some (.agg #[.int .u32 a2_0, .int .i64 a2_1, .slice A2_2 l2_2.length c2_2, .slice A2_3 l2_3.length c2_3, .int .u32 a2_4, .int .u32 a2_5, .int .i64 a2_6, .int .u32 a2_7]) := by rw [ha]; exact putSel_on (e := (3, 24, .agg #[.int .u32 a2_0, .int .i64 a2_1, .slice A2_2 l2_2.length c2_2, .slice A2_3 l2_3.length c2_3, .int .u32 a2_4, .int .u32 a2_5, .int .i64 a2_6, .int .u32 a2_7])) 2 rfl rfl (hon 3 (by kernel_rfl)) rfl
           replace ha := aM ha
           have BK224 := aM Q_BK224
           have BK225 := aM Q_BK225
           have BK226 := aM Q_BK226
           have HB := aM Q_HB
           refine goes_ Try.func31 (by kernel_rfl) rfl #[.agg #[.int .u32 a2_0, .int .i64 a2_1, .slice A2_2 l2_2.length c2_2, .slice A2_3 l2_3.length c2_3, .int .u32 a2_4, .int .u32 a2_5, .int .i64 a2_6, .int .u32 a2_7]] (by rfl) rfl rfl (by first | (simp only [List.map_toArray, List.map_cons, List.map_nil, Act.eval, Array.getD_eq_getD_getElem?, Option.getD_some, e24]; done) | (simp only [List.map_toArray, List.map_cons, List.map_nil, Act.eval, Array.getD_eq_getD_getElem?, Option.getD_some, e24]; rfl)) ?_
           with_reducible refine (r3_Copy.calls a2_0 a2_1 _ _ l2_2 _ _ l2_3 a2_4 a2_5 a2_6 a2_7 t231 t232 t233 t236 t239 t240 t241 t242 _ ?side1 ?side2 ?side3 ?side4 A37.out).mono ?_
           (case side1 => repeat (first | exact (Kd.C_below HR2_2.out HB.out) | (with_reducible refine Kd.C_alloc ?_ _) | (with_reducible refine Kd.C_drewN ?_ _) | (with_reducible refine Kd.C_drew ?_)))
           (case side2 => exact HC2_2.out)
           (case side3 => repeat (first | exact (Kd.C_below HR2_3.out HB.out) | (with_reducible refine Kd.C_alloc ?_ _) | (with_reducible refine Kd.C_drewN ?_ _) | (with_reducible refine Kd.C_drew ?_)))
           (case side4 => exact HC2_3.out)
           rintro e w42 ⟨v234, v237, rfl, ho0, ho1, hb⟩
           refine ⟨_, rfl, ?_⟩
           have n0_ := aM (Kd.R_lower ho0 (below_size (bw_ HB.out)))
           have n1_ := aM (Kd.R_lower ho1 (below_size (bw_ HB.out)))
           have n2_ := aM (blk_below (g := gb224) (o := .cells #[.int .i64 a0_0, .slice A0_1 l0_1.length c0_1, .slice A0_2 l0_2.length c0_2, .slice A0_3 l0_3.length c0_3, .int .u32 a0_4, .int .u32 a0_5] 46 (0, 0)) (up_ BK224.out) hb)
           have n3_ := aM (blk_below (g := gb225) (o := .cells #[.int .u32 a1_0, .int .i64 a1_1, .slice A1_2 l1_2.length c1_2, .slice A1_3 l1_3.length c1_3, .int .u32 a1_4, .int .u32 a1_5, .int .i64 a1_6, .int .u32 a1_7] 50 (0, 0)) (up_ BK225.out) hb)
           have n4_ := aM (blk_below (g := gb226) (o := .cells #[.int .u32 a2_0, .int .i64 a2_1, .slice A2_2 l2_2.length c2_2, .slice A2_3 l2_3.length c2_3, .int .u32 a2_4, .int .u32 a2_5, .int .i64 a2_6, .int .u32 a2_7] 50 (0, 0)) (up_ BK226.out) hb)
           have n5_ := aM (below_step (bw_ HB.out) hb)
           have z_BK243 := fun (h0_ : b 5 = true) (h1_ : b 7 = false) => (show w42.heap[gb243]? = some (.cells #[.int .i64 0, .slice none 0 0, .slice none 0 0, .slice none 0 0, .int .u32 0, .int .u32 0] 46 (0, 0)) from by first | exact (blk_below (g := gb243) (o := .cells #[.int .i64 0, .slice none 0 0, .slice none 0 0, .slice none 0 0, .int .u32 0, .int .u32 0] 46 (0, 0)) (up_ (Q_BK243 h0_ h1_)) hb))
           have z_BK244 := fun (h0_ : b 6 = true) (h1_ : b 8 = false) => (show w42.heap[gb244]? = some (.cells #[.int .u32 0, .int .i64 0, .slice none 0 0, .slice none 0 0, .int .u32 0, .int .u32 0, .int .i64 0, .int .u32 0] 50 (0, 0)) from by first | exact (blk_below (g := gb244) (o := .cells #[.int .u32 0, .int .i64 0, .slice none 0 0, .slice none 0 0, .int .u32 0, .int .u32 0, .int .i64 0, .int .u32 0] 50 (0, 0)) (up_ (Q_BK244 h0_ h1_)) hb))
           clear BK224
           clear BK225
           clear BK226
           clear HB
           have HO235 := n0_
           have HO238 := n1_
           have BK224 := n2_
           have BK225 := n3_
           have BK226 := n4_
           have HB := n5_
           clear n0_ n1_ n2_ n3_ n4_ n5_
           (try clear hb)
           (try clear hb2)
           (try clear hk)
           (try clear hi)
           (try clear ho0)
           (try clear ho1)
           refine hK.out _ _ ⟨v234, v237, gb243, gb244, (.agg #[.int .u32 t231, .int .i64 t232, v234, v237, .int .u32 t239, .int .u32 t240, .int .i64 t241, .int .u32 t242]), m5_, m6_, (by rw [ha.out]; exact putSel_upk 3 hb_ rfl rfl rfl), (up_ BK224.out), (up_ BK225.out), (up_ BK226.out), (bw_ HB.out), Q_NB244_243, Q_NB243_244, fun _ => (uk_ HO235.out), fun _ => (uk_ HO238.out), z_BK243, Q_GW243, Q_GE243, Q_NB224_243, Q_NB243_224, Q_NB225_243, Q_NB243_225, Q_NB226_243, Q_NB243_226, z_BK244, Q_GW244, Q_GE244, Q_NB224_244, Q_NB244_224, Q_NB225_244, Q_NB244_225, Q_NB226_244, Q_NB244_226, fun h0_ => absurd ((hoff 7 (by kernel_rfl)).symm.trans h0_) (by decide), fun h0_ => absurd ((hoff 8 (by kernel_rfl)).symm.trans h0_) (by decide), fun _ => rfl, Q_X5_, Q_X6_⟩
         refine steps_cons ?_ ?_
         · rintro b a w' ⟨v234, v237, gb243, gb244, m4_, m5_, m6_, ha, Q_BK224, Q_BK225, Q_BK226, Q_HB, Q_NB244_243, Q_NB243_244, Q_HO235, Q_HO238, Q_BK243, Q_GW243, Q_GE243, Q_NB224_243, Q_NB243_224, Q_NB225_243, Q_NB243_225, Q_NB226_243, Q_NB243_226, Q_BK244, Q_GW244, Q_GE244, Q_NB224_244, Q_NB244_224, Q_NB225_244, Q_NB244_225, Q_NB226_244, Q_NB244_226, Q_BK243_e7, Q_BK244_e8, Q_X4_, Q_X5_, Q_X6_⟩ hb_ hon hoff
           refine ⟨_, rfl, fun K hK => ?_⟩
           replace ha := aM ha
           have BK224 := aM Q_BK224
           have BK225 := aM Q_BK225
           have BK226 := aM Q_BK226
           have HB := aM Q_HB
           refine box_step ?hg (N := 7) ?hd (cs := #[.int .i64 0, .slice none 0 0, .slice none 0 0, .slice none 0 0, .int .u32 0, .int .u32 0]) (t := 46) ?hr ?_; (case hd => rfl); (case hg => rfl); (case hr => first | (go_simp; done) | (go_simp; rfl))
           intro gb243 hg w42 hbox hb
           have n0_ := aM (blk_below (g := gb224) (o := .cells #[.int .i64 a0_0, .slice A0_1 l0_1.length c0_1, .slice A0_2 l0_2.length c0_2, .slice A0_3 l0_3.length c0_3, .int .u32 a0_4, .int .u32 a0_5] 46 (0, 0)) (up_ BK224.out) hb)
           have n1_ := aM (blk_below (g := gb225) (o := .cells #[.int .u32 a1_0, .int .i64 a1_1, .slice A1_2 l1_2.length c1_2, .slice A1_3 l1_3.length c1_3, .int .u32 a1_4, .int .u32 a1_5, .int .i64 a1_6, .int .u32 a1_7] 50 (0, 0)) (up_ BK225.out) hb)
           have n2_ := aM (blk_below (g := gb226) (o := .cells #[.int .u32 a2_0, .int .i64 a2_1, .slice A2_2 l2_2.length c2_2, .slice A2_3 l2_3.length c2_3, .int .u32 a2_4, .int .u32 a2_5, .int .i64 a2_6, .int .u32 a2_7] 50 (0, 0)) (up_ BK226.out) hb)
           have n3_ := aM (below_step (bw_ HB.out) hb)
           have n4_ := aM (hbox)
           have n5_ := aM ((by rw [hg]; exact (below_size (bw_ HB.out)) : w.heap.size ≤ gb243))
           have n6_ := aM ((by rw [hg]; exact (below_size (bw_ HB.out)) : w.heap.size ≤ gb243))
           have n7_ := aM ((by rw [hg]; exact Nat.ne_of_lt (blk_lt (g := gb224) (o := .cells #[.int .i64 a0_0, .slice A0_1 l0_1.length c0_1, .slice A0_2 l0_2.length c0_2, .slice A0_3 l0_3.length c0_3, .int .u32 a0_4, .int .u32 a0_5] 46 (0, 0)) (up_ BK224.out)) : gb224 ≠ gb243))
           have n8_ := aM ((by rw [hg]; exact Nat.ne_of_gt (blk_lt (g := gb224) (o := .cells #[.int .i64 a0_0, .slice A0_1 l0_1.length c0_1, .slice A0_2 l0_2.length c0_2, .slice A0_3 l0_3.length c0_3, .int .u32 a0_4, .int .u32 a0_5] 46 (0, 0)) (up_ BK224.out)) : gb243 ≠ gb224))
           have n9_ := aM ((by rw [hg]; exact Nat.ne_of_lt (blk_lt (g := gb225) (o := .cells #[.int .u32 a1_0, .int .i64 a1_1, .slice A1_2 l1_2.length c1_2, .slice A1_3 l1_3.length c1_3, .int .u32 a1_4, .int .u32 a1_5, .int .i64 a1_6, .int .u32 a1_7] 50 (0, 0)) (up_ BK225.out)) : gb225 ≠ gb243))
           have n10_ := aM ((by rw [hg]; exact Nat.ne_of_gt (blk_lt (g := gb225) (o := .cells #[.int .u32 a1_0, .int .i64 a1_1, .slice A1_2 l1_2.length c1_2, .slice A1_3 l1_3.length c1_3, .int .u32 a1_4, .int .u32 a1_5, .int .i64 a1_6, .int .u32 a1_7] 50 (0, 0)) (up_ BK225.out)) : gb243 ≠ gb225))
           have n11_ := aM ((by rw [hg]; exact Nat.ne_of_lt (blk_lt (g := gb226) (o := .cells #[.int .u32 a2_0, .int .i64 a2_1, .slice A2_2 l2_2.length c2_2, .slice A2_3 l2_3.length c2_3, .int .u32 a2_4, .int .u32 a2_5, .int .i64 a2_6, .int .u32 a2_7] 50 (0, 0)) (up_ BK226.out)) : gb226 ≠ gb243))
           have n12_ := aM ((by rw [hg]; exact Nat.ne_of_gt (blk_lt (g := gb226) (o := .cells #[.int .u32 a2_0, .int .i64 a2_1, .slice A2_2 l2_2.length c2_2, .slice A2_3 l2_3.length c2_3, .int .u32 a2_4, .int .u32 a2_5, .int .i64 a2_6, .int .u32 a2_7] 50 (0, 0)) (up_ BK226.out)) : gb243 ≠ gb226))
           have z_NB244_243 := fun (h0_ : up b 5 5 = true) (h1_ : up b 5 6 = true) => (show gb244 ≠ gb243 from ((by rw [hg]; exact Nat.ne_of_lt (blk_lt (g := gb244) (o := .cells #[.int .u32 0, .int .i64 0, .slice none 0 0, .slice none 0 0, .int .u32 0, .int .u32 0, .int .i64 0, .int .u32 0] 50 (0, 0)) (by (with_reducible repeat (first | apply bkN | apply bkD | apply bkA)); exact (Q_BK244 h1_ (hoff 8 (by kernel_rfl))))) : gb244 ≠ gb243)))
           have z_NB243_244 := fun (h0_ : up b 5 5 = true) (h1_ : up b 5 6 = true) => (show gb243 ≠ gb244 from ((by rw [hg]; exact Nat.ne_of_gt (blk_lt (g := gb244) (o := .cells #[.int .u32 0, .int .i64 0, .slice none 0 0, .slice none 0 0, .int .u32 0, .int .u32 0, .int .i64 0, .int .u32 0] 50 (0, 0)) (by (with_reducible repeat (first | apply bkN | apply bkD | apply bkA)); exact (Q_BK244 h1_ (hoff 8 (by kernel_rfl))))) : gb243 ≠ gb244)))
           have z_HO235 := fun (h0_ : b 4 = true) => (show Kd.R (Kd.int .u32) 36 w42 w.heap.size (fun k_ => some k_ ≠ v237.ownBlock) v234 t233 from by first | exact (Kd.R_below (uk_ (Q_HO235 h0_)) hb) | exact Kd.R_mono (Kd.R_below (uk_ (Q_HO235 h0_)) hb) (fun _ h_ => by first | trivial | exact h_ | exact h_.1))
           have z_HO238 := fun (h0_ : b 4 = true) => (show Kd.R (Kd.int .u32) 36 w42 w.heap.size (fun k_ => some k_ ≠ v234.ownBlock) v237 t236 from by first | exact (Kd.R_below (uk_ (Q_HO238 h0_)) hb) | exact Kd.R_mono (Kd.R_below (uk_ (Q_HO238 h0_)) hb) (fun _ h_ => by first | trivial | exact h_ | exact h_.1))
           have z_BK244 := fun (h0_ : b 6 = true) (h1_ : b 8 = false) => (show w42.heap[gb244]? = some (.cells #[.int .u32 0, .int .i64 0, .slice none 0 0, .slice none 0 0, .int .u32 0, .int .u32 0, .int .i64 0, .int .u32 0] 50 (0, 0)) from by first | exact (blk_below (g := gb244) (o := .cells #[.int .u32 0, .int .i64 0, .slice none 0 0, .slice none 0 0, .int .u32 0, .int .u32 0, .int .i64 0, .int .u32 0] 50 (0, 0)) (up_ (Q_BK244 h0_ h1_)) hb))
           clear BK224
           clear BK225
           clear BK226
           clear HB
           have BK224 := n0_
           have BK225 := n1_
           have BK226 := n2_
           have HB := n3_
           have BK243 := n4_
           have GW243 := n5_
           have GE243 := n6_
           have NB224_243 := n7_
           have NB243_224 := n8_
           have NB225_243 := n9_
           have NB243_225 := n10_
           have NB226_243 := n11_
           have NB243_226 := n12_
           clear n0_ n1_ n2_ n3_ n4_ n5_ n6_ n7_ n8_ n9_ n10_ n11_ n12_
           clear hb hbox hg
           refine hK.out _ _ ⟨v234, v237, gb243, gb244, m4_, (.pointer (some ⟨gb243, 0, none⟩)), m6_, (by rw [ha.out]; exact putSel_upk 4 hb_ rfl rfl rfl), (up_ BK224.out), (up_ BK225.out), (up_ BK226.out), (bw_ HB.out), z_NB244_243, z_NB243_244, z_HO235, z_HO238, fun _ _ => (up_ BK243.out), fun _ => GW243.out, fun _ => GE243.out, fun _ => NB224_243.out, fun _ => NB243_224.out, fun _ => NB225_243.out, fun _ => NB243_225.out, fun _ => NB226_243.out, fun _ => NB243_226.out, z_BK244, Q_GW244, Q_GE244, Q_NB224_244, Q_NB244_224, Q_NB225_244, Q_NB244_225, Q_NB226_244, Q_NB244_226, fun h0_ => absurd ((hoff 7 (by kernel_rfl)).symm.trans h0_) (by decide), fun h0_ => absurd ((hoff 8 (by kernel_rfl)).symm.trans h0_) (by decide), Q_X4_, fun _ => rfl, Q_X6_⟩
         refine steps_cons ?_ ?_
         · rintro b a w' ⟨v234, v237, gb243, gb244, m4_, m5_, m6_, ha, Q_BK224, Q_BK225, Q_BK226, Q_HB, Q_NB244_243, Q_NB243_244, Q_HO235, Q_HO238, Q_BK243, Q_GW243, Q_GE243, Q_NB224_243, Q_NB243_224, Q_NB225_243, Q_NB243_225, Q_NB226_243, Q_NB243_226, Q_BK244, Q_GW244, Q_GE244, Q_NB224_244, Q_NB244_224, Q_NB225_244, Q_NB244_225, Q_NB226_244, Q_NB244_226, Q_BK243_e7, Q_BK244_e8, Q_X4_, Q_X5_, Q_X6_⟩ hb_ hon hoff
           refine ⟨_, rfl, fun K hK => ?_⟩
           replace ha := aM ha
           have BK224 := aM Q_BK224
           have BK225 := aM Q_BK225
           have BK226 := aM Q_BK226
           have HB := aM Q_HB
           refine box_step ?hg (N := 8) ?hd (cs := #[.int .u32 0, .int .i64 0, .slice none 0 0, .slice none 0 0, .int .u32 0, .int .u32 0, .int .i64 0, .int .u32 0]) (t := 50) ?hr ?_; (case hd => rfl); (case hg => rfl); (case hr => first | (go_simp; done) | (go_simp; rfl))
           intro gb244 hg w42 hbox hb
           have n0_ := aM (blk_below (g := gb224) (o := .cells #[.int .i64 a0_0, .slice A0_1 l0_1.length c0_1, .slice A0_2 l0_2.length c0_2, .slice A0_3 l0_3.length c0_3, .int .u32 a0_4, .int .u32 a0_5] 46 (0, 0)) (up_ BK224.out) hb)
           have n1_ := aM (blk_below (g := gb225) (o := .cells #[.int .u32 a1_0, .int .i64 a1_1, .slice A1_2 l1_2.length c1_2, .slice A1_3 l1_3.length c1_3, .int .u32 a1_4, .int .u32 a1_5, .int .i64 a1_6, .int .u32 a1_7] 50 (0, 0)) (up_ BK225.out) hb)
           have n2_ := aM (blk_below (g := gb226) (o := .cells #[.int .u32 a2_0, .int .i64 a2_1, .slice A2_2 l2_2.length c2_2, .slice A2_3 l2_3.length c2_3, .int .u32 a2_4, .int .u32 a2_5, .int .i64 a2_6, .int .u32 a2_7] 50 (0, 0)) (up_ BK226.out) hb)
           have n3_ := aM (below_step (bw_ HB.out) hb)
           have n4_ := aM (hbox)
           have n5_ := aM ((by rw [hg]; exact (below_size (bw_ HB.out)) : w.heap.size ≤ gb244))
           have n6_ := aM ((by rw [hg]; exact (below_size (bw_ HB.out)) : w.heap.size ≤ gb244))
           have n7_ := aM ((by rw [hg]; exact Nat.ne_of_lt (blk_lt (g := gb224) (o := .cells #[.int .i64 a0_0, .slice A0_1 l0_1.length c0_1, .slice A0_2 l0_2.length c0_2, .slice A0_3 l0_3.length c0_3, .int .u32 a0_4, .int .u32 a0_5] 46 (0, 0)) (up_ BK224.out)) : gb224 ≠ gb244))
           have n8_ := aM ((by rw [hg]; exact Nat.ne_of_gt (blk_lt (g := gb224) (o := .cells #[.int .i64 a0_0, .slice A0_1 l0_1.length c0_1, .slice A0_2 l0_2.length c0_2, .slice A0_3 l0_3.length c0_3, .int .u32 a0_4, .int .u32 a0_5] 46 (0, 0)) (up_ BK224.out)) : gb244 ≠ gb224))
           have n9_ := aM ((by rw [hg]; exact Nat.ne_of_lt (blk_lt (g := gb225) (o := .cells #[.int .u32 a1_0, .int .i64 a1_1, .slice A1_2 l1_2.length c1_2, .slice A1_3 l1_3.length c1_3, .int .u32 a1_4, .int .u32 a1_5, .int .i64 a1_6, .int .u32 a1_7] 50 (0, 0)) (up_ BK225.out)) : gb225 ≠ gb244))
           have n10_ := aM ((by rw [hg]; exact Nat.ne_of_gt (blk_lt (g := gb225) (o := .cells #[.int .u32 a1_0, .int .i64 a1_1, .slice A1_2 l1_2.length c1_2, .slice A1_3 l1_3.length c1_3, .int .u32 a1_4, .int .u32 a1_5, .int .i64 a1_6, .int .u32 a1_7] 50 (0, 0)) (up_ BK225.out)) : gb244 ≠ gb225))
           have n11_ := aM ((by rw [hg]; exact Nat.ne_of_lt (blk_lt (g := gb226) (o := .cells #[.int .u32 a2_0, .int .i64 a2_1, .slice A2_2 l2_2.length c2_2, .slice A2_3 l2_3.length c2_3, .int .u32 a2_4, .int .u32 a2_5, .int .i64 a2_6, .int .u32 a2_7] 50 (0, 0)) (up_ BK226.out)) : gb226 ≠ gb244))
           have n12_ := aM ((by rw [hg]; exact Nat.ne_of_gt (blk_lt (g := gb226) (o := .cells #[.int .u32 a2_0, .int .i64 a2_1, .slice A2_2 l2_2.length c2_2, .slice A2_3 l2_3.length c2_3, .int .u32 a2_4, .int .u32 a2_5, .int .i64 a2_6, .int .u32 a2_7] 50 (0, 0)) (up_ BK226.out)) : gb244 ≠ gb226))
           have z_NB244_243 := fun (h0_ : up b 6 5 = true) (h1_ : up b 6 6 = true) => (show gb244 ≠ gb243 from ((by rw [hg]; exact Nat.ne_of_gt (blk_lt (g := gb243) (o := .cells #[.int .i64 0, .slice none 0 0, .slice none 0 0, .slice none 0 0, .int .u32 0, .int .u32 0] 46 (0, 0)) (by (with_reducible repeat (first | apply bkN | apply bkD | apply bkA)); exact (Q_BK243 h0_ (hoff 7 (by kernel_rfl))))) : gb244 ≠ gb243)))
           have z_NB243_244 := fun (h0_ : up b 6 5 = true) (h1_ : up b 6 6 = true) => (show gb243 ≠ gb244 from ((by rw [hg]; exact Nat.ne_of_lt (blk_lt (g := gb243) (o := .cells #[.int .i64 0, .slice none 0 0, .slice none 0 0, .slice none 0 0, .int .u32 0, .int .u32 0] 46 (0, 0)) (by (with_reducible repeat (first | apply bkN | apply bkD | apply bkA)); exact (Q_BK243 h0_ (hoff 7 (by kernel_rfl))))) : gb243 ≠ gb244)))
           have z_HO235 := fun (h0_ : b 4 = true) => (show Kd.R (Kd.int .u32) 36 w42 w.heap.size (fun k_ => some k_ ≠ v237.ownBlock) v234 t233 from by first | exact (Kd.R_below (uk_ (Q_HO235 h0_)) hb) | exact Kd.R_mono (Kd.R_below (uk_ (Q_HO235 h0_)) hb) (fun _ h_ => by first | trivial | exact h_ | exact h_.1))
           have z_HO238 := fun (h0_ : b 4 = true) => (show Kd.R (Kd.int .u32) 36 w42 w.heap.size (fun k_ => some k_ ≠ v234.ownBlock) v237 t236 from by first | exact (Kd.R_below (uk_ (Q_HO238 h0_)) hb) | exact Kd.R_mono (Kd.R_below (uk_ (Q_HO238 h0_)) hb) (fun _ h_ => by first | trivial | exact h_ | exact h_.1))
           have z_BK243 := fun (h0_ : b 5 = true) (h1_ : b 7 = false) => (show w42.heap[gb243]? = some (.cells #[.int .i64 0, .slice none 0 0, .slice none 0 0, .slice none 0 0, .int .u32 0, .int .u32 0] 46 (0, 0)) from by first | exact (blk_below (g := gb243) (o := .cells #[.int .i64 0, .slice none 0 0, .slice none 0 0, .slice none 0 0, .int .u32 0, .int .u32 0] 46 (0, 0)) (up_ (Q_BK243 h0_ h1_)) hb))
           clear BK224
           clear BK225
           clear BK226
           clear HB
           have BK224 := n0_
           have BK225 := n1_
           have BK226 := n2_
           have HB := n3_
           have BK244 := n4_
           have GW244 := n5_
           have GE244 := n6_
           have NB224_244 := n7_
           have NB244_224 := n8_
           have NB225_244 := n9_
           have NB244_225 := n10_
           have NB226_244 := n11_
           have NB244_226 := n12_
           clear n0_ n1_ n2_ n3_ n4_ n5_ n6_ n7_ n8_ n9_ n10_ n11_ n12_
           clear hb hbox hg
           refine hK.out _ _ ⟨v234, v237, gb243, gb244, m4_, m5_, (.pointer (some ⟨gb244, 0, none⟩)), (by rw [ha.out]; exact putSel_upk 5 hb_ rfl rfl rfl), (up_ BK224.out), (up_ BK225.out), (up_ BK226.out), (bw_ HB.out), z_NB244_243, z_NB243_244, z_HO235, z_HO238, z_BK243, Q_GW243, Q_GE243, Q_NB224_243, Q_NB243_224, Q_NB225_243, Q_NB243_225, Q_NB226_243, Q_NB243_226, fun _ _ => (up_ BK244.out), fun _ => GW244.out, fun _ => GE244.out, fun _ => NB224_244.out, fun _ => NB244_224.out, fun _ => NB225_244.out, fun _ => NB244_225.out, fun _ => NB226_244.out, fun _ => NB244_226.out, fun h0_ => absurd ((hoff 7 (by kernel_rfl)).symm.trans h0_) (by decide), fun h0_ => absurd ((hoff 8 (by kernel_rfl)).symm.trans h0_) (by decide), Q_X4_, Q_X5_, fun _ => rfl⟩
         refine steps_cons ?_ ?_
         · rintro b a w' ⟨v234, v237, gb243, gb244, m4_, m5_, m6_, ha, Q_BK224, Q_BK225, Q_BK226, Q_HB, Q_NB244_243, Q_NB243_244, Q_HO235, Q_HO238, Q_BK243, Q_GW243, Q_GE243, Q_NB224_243, Q_NB243_224, Q_NB225_243, Q_NB243_225, Q_NB226_243, Q_NB243_226, Q_BK244, Q_GW244, Q_GE244, Q_NB224_244, Q_NB244_224, Q_NB225_244, Q_NB244_225, Q_NB226_244, Q_NB244_226, Q_BK243_e7, Q_BK244_e8, Q_X4_, Q_X5_, Q_X6_⟩ hb_ hon hoff
           refine ⟨_, rfl, fun K hK => ?_⟩
           have e7 : a.tmps[7]? = some (m5_) := by rw [ha]; exact putSel_on (e := (5, 7, m5_)) 4 rfl rfl (hon 5 (by kernel_rfl)) rfl
           rw [Q_X5_ (hon 5 (by kernel_rfl))] at e7
           have e23 : a.tmps[23]? = some (.agg #[.int .i64 a0_0, .slice none 0 0, .slice none 0 0, .slice none 0 0, .int .u32 0, .int .u32 0]) := by rw [ha]; exact putSel_on (e := (2, 23, .agg #[.int .i64 a0_0, .slice none 0 0, .slice none 0 0, .slice none 0 0, .int .u32 0, .int .u32 0])) 1 rfl rfl (hon 2 (by kernel_rfl)) rfl
           replace ha := aM ha
           have BK224 := aM Q_BK224
           have BK225 := aM Q_BK225
           have BK226 := aM Q_BK226
           have HB := aM Q_HB
           have NB244_243 := aM (Q_NB244_243 (hon 5 (by kernel_rfl)) (hon 6 (by kernel_rfl)))
           have NB243_244 := aM (Q_NB243_244 (hon 5 (by kernel_rfl)) (hon 6 (by kernel_rfl)))
           have HO235 := aM (Q_HO235 (hon 4 (by kernel_rfl)))
           have HO238 := aM (Q_HO238 (hon 4 (by kernel_rfl)))
           have BK243 := aM (Q_BK243 (hon 5 (by kernel_rfl)) hb_)
           have GW243 := aM (Q_GW243 (hon 5 (by kernel_rfl)))
           have GE243 := aM (Q_GE243 (hon 5 (by kernel_rfl)))
           have NB224_243 := aM (Q_NB224_243 (hon 5 (by kernel_rfl)))
           have NB243_224 := aM (Q_NB243_224 (hon 5 (by kernel_rfl)))
           have NB225_243 := aM (Q_NB225_243 (hon 5 (by kernel_rfl)))
           have NB243_225 := aM (Q_NB243_225 (hon 5 (by kernel_rfl)))
           have NB226_243 := aM (Q_NB226_243 (hon 5 (by kernel_rfl)))
           have NB243_226 := aM (Q_NB243_226 (hon 5 (by kernel_rfl)))
           have BK244 := aM (Q_BK244 (hon 6 (by kernel_rfl)) (hoff 8 (by kernel_rfl)))
           have GW244 := aM (Q_GW244 (hon 6 (by kernel_rfl)))
           have GE244 := aM (Q_GE244 (hon 6 (by kernel_rfl)))
           have NB224_244 := aM (Q_NB224_244 (hon 6 (by kernel_rfl)))
           have NB244_224 := aM (Q_NB244_224 (hon 6 (by kernel_rfl)))
           have NB225_244 := aM (Q_NB225_244 (hon 6 (by kernel_rfl)))
           have NB244_225 := aM (Q_NB244_225 (hon 6 (by kernel_rfl)))
           have NB226_244 := aM (Q_NB226_244 (hon 6 (by kernel_rfl)))
           have NB244_226 := aM (Q_NB244_226 (hon 6 (by kernel_rfl)))
           have hs46 : w'.cell? ⟨gb243, 0, none⟩ = some (.int .i64 0) := (blk_cell BK243.out 0).trans rfl
           have hfs46 := bF BK243.out 0
           have hns46_0 := NB224_243.out
           have hns46_1 := NB225_243.out
           have hns46_2 := NB226_243.out
           have hns46_4 := NB244_243.out
           have hms46_0 := NB243_224.out
           have hms46_1 := NB243_225.out
           have hms46_2 := NB243_226.out
           have hms46_4 := NB243_244.out
           have hs47 : w'.cell? ⟨gb243, 1, none⟩ = some (.slice none 0 0) := (blk_cell BK243.out 1).trans rfl
           have hfs47 := bF BK243.out 1
           have hns47_0 := NB224_243.out
           have hns47_1 := NB225_243.out
           have hns47_2 := NB226_243.out
           have hns47_4 := NB244_243.out
           have hms47_0 := NB243_224.out
           have hms47_1 := NB243_225.out
           have hms47_2 := NB243_226.out
           have hms47_4 := NB243_244.out
           have hs48 : w'.cell? ⟨gb243, 2, none⟩ = some (.slice none 0 0) := (blk_cell BK243.out 2).trans rfl
           have hfs48 := bF BK243.out 2
           have hns48_0 := NB224_243.out
           have hns48_1 := NB225_243.out
           have hns48_2 := NB226_243.out
           have hns48_4 := NB244_243.out
           have hms48_0 := NB243_224.out
           have hms48_1 := NB243_225.out
           have hms48_2 := NB243_226.out
           have hms48_4 := NB243_244.out
           have hs49 : w'.cell? ⟨gb243, 3, none⟩ = some (.slice none 0 0) := (blk_cell BK243.out 3).trans rfl
           have hfs49 := bF BK243.out 3
           have hns49_0 := NB224_243.out
           have hns49_1 := NB225_243.out
           have hns49_2 := NB226_243.out
           have hns49_4 := NB244_243.out
           have hms49_0 := NB243_224.out
           have hms49_1 := NB243_225.out
           have hms49_2 := NB243_226.out
           have hms49_4 := NB243_244.out
           have hs50 : w'.cell? ⟨gb243, 4, none⟩ = some (.int .u32 0) := (blk_cell BK243.out 4).trans rfl
           have hfs50 := bF BK243.out 4
           have hns50_0 := NB224_243.out
           have hns50_1 := NB225_243.out
           have hns50_2 := NB226_243.out
           have hns50_4 := NB244_243.out
           have hms50_0 := NB243_224.out
           have hms50_1 := NB243_225.out
           have hms50_2 := NB243_226.out
           have hms50_4 := NB243_244.out
           have hs51 : w'.cell? ⟨gb243, 5, none⟩ = some (.int .u32 0) := (blk_cell BK243.out 5).trans rfl
           have hfs51 := bF BK243.out 5
           have hns51_0 := NB224_243.out
           have hns51_1 := NB225_243.out
           have hns51_2 := NB226_243.out
           have hns51_4 := NB244_243.out
           have hms51_0 := NB243_224.out
           have hms51_1 := NB243_225.out
           have hms51_2 := NB243_226.out
           have hms51_4 := NB243_244.out
           refine skip_ (w1 := ?_) (by rfl) rfl ?_ ?_
           rotate_left
           · go_simp
             rfl
           refine hK.out _ _ ⟨v234, v237, gb243, gb244, m4_, m5_, m6_, (by rw [ha.out]; exact putSel_none (v := undef) rfl), (by (with_reducible repeat (first | apply bkN | apply bkD | apply bkA)); refine blk_far ?_ NB224_243.out _; (with_reducible repeat (first | apply bkN | apply bkD | apply bkA)); refine blk_far ?_ NB224_243.out _; (with_reducible repeat (first | apply bkN | apply bkD | apply bkA)); refine blk_far ?_ NB224_243.out _; (with_reducible repeat (first | apply bkN | apply bkD | apply bkA)); refine blk_far ?_ NB224_243.out _; (with_reducible repeat (first | apply bkN | apply bkD | apply bkA)); refine blk_far ?_ NB224_243.out _; (with_reducible repeat (first | apply bkN | apply bkD | apply bkA)); refine blk_far ?_ NB224_243.out _; (with_reducible repeat (first | apply bkN | apply bkD | apply bkA)); exact BK224.out), (by (with_reducible repeat (first | apply bkN | apply bkD | apply bkA)); refine blk_far ?_ NB225_243.out _; (with_reducible repeat (first | apply bkN | apply bkD | apply bkA)); refine blk_far ?_ NB225_243.out _; (with_reducible repeat (first | apply bkN | apply bkD | apply bkA)); refine blk_far ?_ NB225_243.out _; (with_reducible repeat (first | apply bkN | apply bkD | apply bkA)); refine blk_far ?_ NB225_243.out _; (with_reducible repeat (first | apply bkN | apply bkD | apply bkA)); refine blk_far ?_ NB225_243.out _; (with_reducible repeat (first | apply bkN | apply bkD | apply bkA)); refine blk_far ?_ NB225_243.out _; (with_reducible repeat (first | apply bkN | apply bkD | apply bkA)); exact BK225.out), (by (with_reducible repeat (first | apply bkN | apply bkD | apply bkA)); refine blk_far ?_ NB226_243.out _; (with_reducible repeat (first | apply bkN | apply bkD | apply bkA)); refine blk_far ?_ NB226_243.out _; (with_reducible repeat (first | apply bkN | apply bkD | apply bkA)); refine blk_far ?_ NB226_243.out _; (with_reducible repeat (first | apply bkN | apply bkD | apply bkA)); refine blk_far ?_ NB226_243.out _; (with_reducible repeat (first | apply bkN | apply bkD | apply bkA)); refine blk_far ?_ NB226_243.out _; (with_reducible repeat (first | apply bkN | apply bkD | apply bkA)); refine blk_far ?_ NB226_243.out _; (with_reducible repeat (first | apply bkN | apply bkD | apply bkA)); exact BK226.out), (bw_ HB.out), fun _ _ => NB244_243.out, fun _ _ => NB243_244.out, fun _ => (by (with_reducible repeat (first | apply kA | apply kN | apply kD)); exact Kd.R_mono (Kd.R_far (p := ⟨gb243, 5, none⟩) (Kd.R_far (p := ⟨gb243, 4, none⟩) (Kd.R_far (p := ⟨gb243, 3, none⟩) (Kd.R_far (p := ⟨gb243, 2, none⟩) (Kd.R_far (p := ⟨gb243, 1, none⟩) (Kd.R_far (p := ⟨gb243, 0, none⟩) (Kd.R_types HO235.out BK243.out (by decide)) (fun _ hk => hk.2) (.int .i64 a0_0)) (fun _ hk => hk.2) (.slice none 0 0)) (fun _ hk => hk.2) (.slice none 0 0)) (fun _ hk => hk.2) (.slice none 0 0)) (fun _ hk => hk.2) (.int .u32 0)) (fun _ hk => hk.2) (.int .u32 0)) (fun _ hk => hk.1)), fun _ => (by (with_reducible repeat (first | apply kA | apply kN | apply kD)); exact Kd.R_mono (Kd.R_far (p := ⟨gb243, 5, none⟩) (Kd.R_far (p := ⟨gb243, 4, none⟩) (Kd.R_far (p := ⟨gb243, 3, none⟩) (Kd.R_far (p := ⟨gb243, 2, none⟩) (Kd.R_far (p := ⟨gb243, 1, none⟩) (Kd.R_far (p := ⟨gb243, 0, none⟩) (Kd.R_types HO238.out BK243.out (by decide)) (fun _ hk => hk.2) (.int .i64 a0_0)) (fun _ hk => hk.2) (.slice none 0 0)) (fun _ hk => hk.2) (.slice none 0 0)) (fun _ hk => hk.2) (.slice none 0 0)) (fun _ hk => hk.2) (.int .u32 0)) (fun _ hk => hk.2) (.int .u32 0)) (fun _ hk => hk.1)), fun _ h1_ => absurd ((up_self b 7).symm.trans h1_) (by decide), fun _ => GW243.out, fun _ => GE243.out, fun _ => NB224_243.out, fun _ => NB243_224.out, fun _ => NB225_243.out, fun _ => NB243_225.out, fun _ => NB226_243.out, fun _ => NB243_226.out, fun _ _ => (by (with_reducible repeat (first | apply bkN | apply bkD | apply bkA)); refine blk_far ?_ NB244_243.out _; (with_reducible repeat (first | apply bkN | apply bkD | apply bkA)); refine blk_far ?_ NB244_243.out _; (with_reducible repeat (first | apply bkN | apply bkD | apply bkA)); refine blk_far ?_ NB244_243.out _; (with_reducible repeat (first | apply bkN | apply bkD | apply bkA)); refine blk_far ?_ NB244_243.out _; (with_reducible repeat (first | apply bkN | apply bkD | apply bkA)); refine blk_far ?_ NB244_243.out _; (with_reducible repeat (first | apply bkN | apply bkD | apply bkA)); refine blk_far ?_ NB244_243.out _; (with_reducible repeat (first | apply bkN | apply bkD | apply bkA)); exact BK244.out), fun _ => GW244.out, fun _ => GE244.out, fun _ => NB224_244.out, fun _ => NB244_224.out, fun _ => NB225_244.out, fun _ => NB244_225.out, fun _ => NB226_244.out, fun _ => NB244_226.out, fun _ => (by (with_reducible repeat (first | apply bkN | apply bkD | apply bkA)); refine blk_put (cs := #[.int .i64 a0_0, .slice none 0 0, .slice none 0 0, .slice none 0 0, .int .u32 0, .int .u32 0]) ?_ 5 _ rfl; (with_reducible repeat (first | apply bkN | apply bkD | apply bkA)); refine blk_put (cs := #[.int .i64 a0_0, .slice none 0 0, .slice none 0 0, .slice none 0 0, .int .u32 0, .int .u32 0]) ?_ 4 _ rfl; (with_reducible repeat (first | apply bkN | apply bkD | apply bkA)); refine blk_put (cs := #[.int .i64 a0_0, .slice none 0 0, .slice none 0 0, .slice none 0 0, .int .u32 0, .int .u32 0]) ?_ 3 _ rfl; (with_reducible repeat (first | apply bkN | apply bkD | apply bkA)); refine blk_put (cs := #[.int .i64 a0_0, .slice none 0 0, .slice none 0 0, .slice none 0 0, .int .u32 0, .int .u32 0]) ?_ 2 _ rfl; (with_reducible repeat (first | apply bkN | apply bkD | apply bkA)); refine blk_put (cs := #[.int .i64 a0_0, .slice none 0 0, .slice none 0 0, .slice none 0 0, .int .u32 0, .int .u32 0]) ?_ 1 _ rfl; (with_reducible repeat (first | apply bkN | apply bkD | apply bkA)); refine blk_put (cs := #[.int .i64 0, .slice none 0 0, .slice none 0 0, .slice none 0 0, .int .u32 0, .int .u32 0]) ?_ 0 _ rfl; (with_reducible repeat (first | apply bkN | apply bkD | apply bkA)); exact BK243.out), fun h0_ => absurd ((hoff 8 (by kernel_rfl)).symm.trans h0_) (by decide), Q_X4_, Q_X5_, Q_X6_⟩
         refine steps_cons ?_ ?_
         · rintro b a w' ⟨v234, v237, gb243, gb244, m4_, m5_, m6_, ha, Q_BK224, Q_BK225, Q_BK226, Q_HB, Q_NB244_243, Q_NB243_244, Q_HO235, Q_HO238, Q_BK243, Q_GW243, Q_GE243, Q_NB224_243, Q_NB243_224, Q_NB225_243, Q_NB243_225, Q_NB226_243, Q_NB243_226, Q_BK244, Q_GW244, Q_GE244, Q_NB224_244, Q_NB244_224, Q_NB225_244, Q_NB244_225, Q_NB226_244, Q_NB244_226, Q_BK243_e7, Q_BK244_e8, Q_X4_, Q_X5_, Q_X6_⟩ hb_ hon hoff
           refine ⟨_, rfl, fun K hK => ?_⟩
           have e8 : a.tmps[8]? = some (m6_) := by rw [ha]; exact putSel_on (e := (6, 8, m6_)) 5 rfl rfl (hon 6 (by kernel_rfl)) rfl
           rw [Q_X6_ (hon 6 (by kernel_rfl))] at e8
           have e25 : a.tmps[25]? = some (m4_) := by rw [ha]; exact putSel_on (e := (4, 25, m4_)) 3 rfl rfl (hon 4 (by kernel_rfl)) rfl
           rw [Q_X4_ (hon 4 (by kernel_rfl))] at e25
           replace ha := aM ha
           have BK224 := aM Q_BK224
           have BK225 := aM Q_BK225
           have BK226 := aM Q_BK226
           have HB := aM Q_HB
           have NB244_243 := aM (Q_NB244_243 (hon 5 (by kernel_rfl)) (hon 6 (by kernel_rfl)))
           have NB243_244 := aM (Q_NB243_244 (hon 5 (by kernel_rfl)) (hon 6 (by kernel_rfl)))
           have HO235 := aM (Q_HO235 (hon 4 (by kernel_rfl)))
           have HO238 := aM (Q_HO238 (hon 4 (by kernel_rfl)))
           have GW243 := aM (Q_GW243 (hon 5 (by kernel_rfl)))
           have GE243 := aM (Q_GE243 (hon 5 (by kernel_rfl)))
           have NB224_243 := aM (Q_NB224_243 (hon 5 (by kernel_rfl)))
           have NB243_224 := aM (Q_NB243_224 (hon 5 (by kernel_rfl)))
           have NB225_243 := aM (Q_NB225_243 (hon 5 (by kernel_rfl)))
           have NB243_225 := aM (Q_NB243_225 (hon 5 (by kernel_rfl)))
           have NB226_243 := aM (Q_NB226_243 (hon 5 (by kernel_rfl)))
           have NB243_226 := aM (Q_NB243_226 (hon 5 (by kernel_rfl)))
           have BK244 := aM (Q_BK244 (hon 6 (by kernel_rfl)) hb_)
           have GW244 := aM (Q_GW244 (hon 6 (by kernel_rfl)))
           have GE244 := aM (Q_GE244 (hon 6 (by kernel_rfl)))
           have NB224_244 := aM (Q_NB224_244 (hon 6 (by kernel_rfl)))
           have NB244_224 := aM (Q_NB244_224 (hon 6 (by kernel_rfl)))
           have NB225_244 := aM (Q_NB225_244 (hon 6 (by kernel_rfl)))
           have NB244_225 := aM (Q_NB244_225 (hon 6 (by kernel_rfl)))
           have NB226_244 := aM (Q_NB226_244 (hon 6 (by kernel_rfl)))
           have NB244_226 := aM (Q_NB244_226 (hon 6 (by kernel_rfl)))
           have BK243 := aM (Q_BK243_e7 (hon 7 (by kernel_rfl)))
           obtain ⟨Ao54, co54, eo54⟩ := Kd.R_slice HO235.out
           (first | subst eo54 | (injection eo54 with f1_ f2_ f3_; have f4_ := f1_.symm; have f5_ := f3_.symm; clear f1_ f2_ f3_; subst f4_; subst f5_))
           obtain ⟨Ao56, co56, eo56⟩ := Kd.R_slice HO238.out
           (first | subst eo56 | (injection eo56 with f1_ f2_ f3_; have f4_ := f1_.symm; have f5_ := f3_.symm; clear f1_ f2_ f3_; subst f4_; subst f5_))
           have hs52 : w'.cell? ⟨gb244, 0, none⟩ = some (.int .u32 0) := (blk_cell BK244.out 0).trans rfl
           have hfs52 := bF BK244.out 0
           have hns52_0 := NB224_244.out
           have hns52_1 := NB225_244.out
           have hns52_2 := NB226_244.out
           have hns52_3 := NB243_244.out
           have hms52_0 := NB244_224.out
           have hms52_1 := NB244_225.out
           have hms52_2 := NB244_226.out
           have hms52_3 := NB244_243.out
           have hs53 : w'.cell? ⟨gb244, 1, none⟩ = some (.int .i64 0) := (blk_cell BK244.out 1).trans rfl
           have hfs53 := bF BK244.out 1
           have hns53_0 := NB224_244.out
           have hns53_1 := NB225_244.out
           have hns53_2 := NB226_244.out
           have hns53_3 := NB243_244.out
           have hms53_0 := NB244_224.out
           have hms53_1 := NB244_225.out
           have hms53_2 := NB244_226.out
           have hms53_3 := NB244_243.out
           have hs55 : w'.cell? ⟨gb244, 2, none⟩ = some (.slice none 0 0) := (blk_cell BK244.out 2).trans rfl
           have hfs55 := bF BK244.out 2
           have hns55_0 := NB224_244.out
           have hns55_1 := NB225_244.out
           have hns55_2 := NB226_244.out
           have hns55_3 := NB243_244.out
           have hms55_0 := NB244_224.out
           have hms55_1 := NB244_225.out
           have hms55_2 := NB244_226.out
           have hms55_3 := NB244_243.out
           have hs57 : w'.cell? ⟨gb244, 3, none⟩ = some (.slice none 0 0) := (blk_cell BK244.out 3).trans rfl
           have hfs57 := bF BK244.out 3
           have hns57_0 := NB224_244.out
           have hns57_1 := NB225_244.out
           have hns57_2 := NB226_244.out
           have hns57_3 := NB243_244.out
           have hms57_0 := NB244_224.out
           have hms57_1 := NB244_225.out
           have hms57_2 := NB244_226.out
           have hms57_3 := NB244_243.out
           have hs58 : w'.cell? ⟨gb244, 4, none⟩ = some (.int .u32 0) := (blk_cell BK244.out 4).trans rfl
           have hfs58 := bF BK244.out 4
           have hns58_0 := NB224_244.out
           have hns58_1 := NB225_244.out
           have hns58_2 := NB226_244.out
           have hns58_3 := NB243_244.out
           have hms58_0 := NB244_224.out
           have hms58_1 := NB244_225.out
           have hms58_2 := NB244_226.out
           have hms58_3 := NB244_243.out
           have hs59 : w'.cell? ⟨gb244, 5, none⟩ = some (.int .u32 0) := (blk_cell BK244.out 5).trans rfl
           have hfs59 := bF BK244.out 5
           have hns59_0 := NB224_244.out
           have hns59_1 := NB225_244.out
           have hns59_2 := NB226_244.out
           have hns59_3 := NB243_244.out
           have hms59_0 := NB244_224.out
           have hms59_1 := NB244_225.out
           have hms59_2 := NB244_226.out
           have hms59_3 := NB244_243.out
           have hs60 : w'.cell? ⟨gb244, 6, none⟩ = some (.int .i64 0) := (blk_cell BK244.out 6).trans rfl
           have hfs60 := bF BK244.out 6
           have hns60_0 := NB224_244.out
           have hns60_1 := NB225_244.out
           have hns60_2 := NB226_244.out
           have hns60_3 := NB243_244.out
           have hms60_0 := NB244_224.out
           have hms60_1 := NB244_225.out
           have hms60_2 := NB244_226.out
           have hms60_3 := NB244_243.out
           have hs61 : w'.cell? ⟨gb244, 7, none⟩ = some (.int .u32 0) := (blk_cell BK244.out 7).trans rfl
           have hfs61 := bF BK244.out 7
           have hns61_0 := NB224_244.out
           have hns61_1 := NB225_244.out
           have hns61_2 := NB226_244.out
           have hns61_3 := NB243_244.out
           have hms61_0 := NB244_224.out
           have hms61_1 := NB244_225.out
           have hms61_2 := NB244_226.out
           have hms61_3 := NB244_243.out
           refine skip_ (w1 := ?_) (by rfl) rfl ?_ ?_
           rotate_left
           · go_simp
             rfl
           refine hK.out _ _ ⟨.slice Ao54 t233.length co54, .slice Ao56 t236.length co56, gb243, gb244, m4_, m5_, m6_, (by rw [ha.out]; exact putSel_none (v := undef) rfl), (by (with_reducible repeat (first | apply bkN | apply bkD | apply bkA)); refine blk_far ?_ NB224_244.out _; (with_reducible repeat (first | apply bkN | apply bkD | apply bkA)); refine blk_far ?_ NB224_244.out _; (with_reducible repeat (first | apply bkN | apply bkD | apply bkA)); refine blk_far ?_ NB224_244.out _; (with_reducible repeat (first | apply bkN | apply bkD | apply bkA)); refine blk_far ?_ NB224_244.out _; (with_reducible repeat (first | apply bkN | apply bkD | apply bkA)); refine blk_far ?_ NB224_244.out _; (with_reducible repeat (first | apply bkN | apply bkD | apply bkA)); refine blk_far ?_ NB224_244.out _; (with_reducible repeat (first | apply bkN | apply bkD | apply bkA)); refine blk_far ?_ NB224_244.out _; (with_reducible repeat (first | apply bkN | apply bkD | apply bkA)); refine blk_far ?_ NB224_244.out _; (with_reducible repeat (first | apply bkN | apply bkD | apply bkA)); exact BK224.out), (by (with_reducible repeat (first | apply bkN | apply bkD | apply bkA)); refine blk_far ?_ NB225_244.out _; (with_reducible repeat (first | apply bkN | apply bkD | apply bkA)); refine blk_far ?_ NB225_244.out _; (with_reducible repeat (first | apply bkN | apply bkD | apply bkA)); refine blk_far ?_ NB225_244.out _; (with_reducible repeat (first | apply bkN | apply bkD | apply bkA)); refine blk_far ?_ NB225_244.out _; (with_reducible repeat (first | apply bkN | apply bkD | apply bkA)); refine blk_far ?_ NB225_244.out _; (with_reducible repeat (first | apply bkN | apply bkD | apply bkA)); refine blk_far ?_ NB225_244.out _; (with_reducible repeat (first | apply bkN | apply bkD | apply bkA)); refine blk_far ?_ NB225_244.out _; (with_reducible repeat (first | apply bkN | apply bkD | apply bkA)); refine blk_far ?_ NB225_244.out _; (with_reducible repeat (first | apply bkN | apply bkD | apply bkA)); exact BK225.out), (by (with_reducible repeat (first | apply bkN | apply bkD | apply bkA)); refine blk_far ?_ NB226_244.out _; (with_reducible repeat (first | apply bkN | apply bkD | apply bkA)); refine blk_far ?_ NB226_244.out _; (with_reducible repeat (first | apply bkN | apply bkD | apply bkA)); refine blk_far ?_ NB226_244.out _; (with_reducible repeat (first | apply bkN | apply bkD | apply bkA)); refine blk_far ?_ NB226_244.out _; (with_reducible repeat (first | apply bkN | apply bkD | apply bkA)); refine blk_far ?_ NB226_244.out _; (with_reducible repeat (first | apply bkN | apply bkD | apply bkA)); refine blk_far ?_ NB226_244.out _; (with_reducible repeat (first | apply bkN | apply bkD | apply bkA)); refine blk_far ?_ NB226_244.out _; (with_reducible repeat (first | apply bkN | apply bkD | apply bkA)); refine blk_far ?_ NB226_244.out _; (with_reducible repeat (first | apply bkN | apply bkD | apply bkA)); exact BK226.out), (bw_ HB.out), fun _ _ => NB244_243.out, fun _ _ => NB243_244.out, fun _ => (by (with_reducible repeat (first | apply kA | apply kN | apply kD)); exact Kd.R_mono (Kd.R_far (p := ⟨gb244, 7, none⟩) (Kd.R_far (p := ⟨gb244, 6, none⟩) (Kd.R_far (p := ⟨gb244, 5, none⟩) (Kd.R_far (p := ⟨gb244, 4, none⟩) (Kd.R_far (p := ⟨gb244, 3, none⟩) (Kd.R_far (p := ⟨gb244, 2, none⟩) (Kd.R_far (p := ⟨gb244, 1, none⟩) (Kd.R_far (p := ⟨gb244, 0, none⟩) (Kd.R_types HO235.out BK244.out (by decide)) (fun _ hk => hk.2) (.int .u32 t231)) (fun _ hk => hk.2) (.int .i64 t232)) (fun _ hk => hk.2) (.slice Ao54 t233.length co54)) (fun _ hk => hk.2) (.slice Ao56 t236.length co56)) (fun _ hk => hk.2) (.int .u32 t239)) (fun _ hk => hk.2) (.int .u32 t240)) (fun _ hk => hk.2) (.int .i64 t241)) (fun _ hk => hk.2) (.int .u32 t242)) (fun _ hk => hk.1)), fun _ => (by (with_reducible repeat (first | apply kA | apply kN | apply kD)); exact Kd.R_mono (Kd.R_far (p := ⟨gb244, 7, none⟩) (Kd.R_far (p := ⟨gb244, 6, none⟩) (Kd.R_far (p := ⟨gb244, 5, none⟩) (Kd.R_far (p := ⟨gb244, 4, none⟩) (Kd.R_far (p := ⟨gb244, 3, none⟩) (Kd.R_far (p := ⟨gb244, 2, none⟩) (Kd.R_far (p := ⟨gb244, 1, none⟩) (Kd.R_far (p := ⟨gb244, 0, none⟩) (Kd.R_types HO238.out BK244.out (by decide)) (fun _ hk => hk.2) (.int .u32 t231)) (fun _ hk => hk.2) (.int .i64 t232)) (fun _ hk => hk.2) (.slice Ao54 t233.length co54)) (fun _ hk => hk.2) (.slice Ao56 t236.length co56)) (fun _ hk => hk.2) (.int .u32 t239)) (fun _ hk => hk.2) (.int .u32 t240)) (fun _ hk => hk.2) (.int .i64 t241)) (fun _ hk => hk.2) (.int .u32 t242)) (fun _ hk => hk.1)), fun _ h1_ => absurd ((hon 7 (by kernel_rfl)).symm.trans h1_) (by decide), fun _ => GW243.out, fun _ => GE243.out, fun _ => NB224_243.out, fun _ => NB243_224.out, fun _ => NB225_243.out, fun _ => NB243_225.out, fun _ => NB226_243.out, fun _ => NB243_226.out, fun _ h1_ => absurd ((up_self b 8).symm.trans h1_) (by decide), fun _ => GW244.out, fun _ => GE244.out, fun _ => NB224_244.out, fun _ => NB244_224.out, fun _ => NB225_244.out, fun _ => NB244_225.out, fun _ => NB226_244.out, fun _ => NB244_226.out, fun _ => (by (with_reducible repeat (first | apply bkN | apply bkD | apply bkA)); refine blk_far ?_ NB243_244.out _; (with_reducible repeat (first | apply bkN | apply bkD | apply bkA)); refine blk_far ?_ NB243_244.out _; (with_reducible repeat (first | apply bkN | apply bkD | apply bkA)); refine blk_far ?_ NB243_244.out _; (with_reducible repeat (first | apply bkN | apply bkD | apply bkA)); refine blk_far ?_ NB243_244.out _; (with_reducible repeat (first | apply bkN | apply bkD | apply bkA)); refine blk_far ?_ NB243_244.out _; (with_reducible repeat (first | apply bkN | apply bkD | apply bkA)); refine blk_far ?_ NB243_244.out _; (with_reducible repeat (first | apply bkN | apply bkD | apply bkA)); refine blk_far ?_ NB243_244.out _; (with_reducible repeat (first | apply bkN | apply bkD | apply bkA)); refine blk_far ?_ NB243_244.out _; (with_reducible repeat (first | apply bkN | apply bkD | apply bkA)); exact BK243.out), fun _ => (by (with_reducible repeat (first | apply bkN | apply bkD | apply bkA)); refine blk_put (cs := #[.int .u32 t231, .int .i64 t232, .slice Ao54 t233.length co54, .slice Ao56 t236.length co56, .int .u32 t239, .int .u32 t240, .int .i64 t241, .int .u32 0]) ?_ 7 _ rfl; (with_reducible repeat (first | apply bkN | apply bkD | apply bkA)); refine blk_put (cs := #[.int .u32 t231, .int .i64 t232, .slice Ao54 t233.length co54, .slice Ao56 t236.length co56, .int .u32 t239, .int .u32 t240, .int .i64 0, .int .u32 0]) ?_ 6 _ rfl; (with_reducible repeat (first | apply bkN | apply bkD | apply bkA)); refine blk_put (cs := #[.int .u32 t231, .int .i64 t232, .slice Ao54 t233.length co54, .slice Ao56 t236.length co56, .int .u32 t239, .int .u32 0, .int .i64 0, .int .u32 0]) ?_ 5 _ rfl; (with_reducible repeat (first | apply bkN | apply bkD | apply bkA)); refine blk_put (cs := #[.int .u32 t231, .int .i64 t232, .slice Ao54 t233.length co54, .slice Ao56 t236.length co56, .int .u32 0, .int .u32 0, .int .i64 0, .int .u32 0]) ?_ 4 _ rfl; (with_reducible repeat (first | apply bkN | apply bkD | apply bkA)); refine blk_put (cs := #[.int .u32 t231, .int .i64 t232, .slice Ao54 t233.length co54, .slice none 0 0, .int .u32 0, .int .u32 0, .int .i64 0, .int .u32 0]) ?_ 3 _ rfl; (with_reducible repeat (first | apply bkN | apply bkD | apply bkA)); refine blk_put (cs := #[.int .u32 t231, .int .i64 t232, .slice none 0 0, .slice none 0 0, .int .u32 0, .int .u32 0, .int .i64 0, .int .u32 0]) ?_ 2 _ rfl; (with_reducible repeat (first | apply bkN | apply bkD | apply bkA)); refine blk_put (cs := #[.int .u32 t231, .int .i64 0, .slice none 0 0, .slice none 0 0, .int .u32 0, .int .u32 0, .int .i64 0, .int .u32 0]) ?_ 1 _ rfl; (with_reducible repeat (first | apply bkN | apply bkD | apply bkA)); refine blk_put (cs := #[.int .u32 0, .int .i64 0, .slice none 0 0, .slice none 0 0, .int .u32 0, .int .u32 0, .int .i64 0, .int .u32 0]) ?_ 0 _ rfl; (with_reducible repeat (first | apply bkN | apply bkD | apply bkA)); exact BK244.out), Q_X4_, Q_X5_, Q_X6_⟩
         exact steps_nil
       rintro b a w61 hall ⟨v234, v237, gb243, gb244, m4_, m5_, m6_, ha, Q_BK224, Q_BK225, Q_BK226, Q_HB, Q_NB244_243, Q_NB243_244, Q_HO235, Q_HO238, Q_BK243, Q_GW243, Q_GE243, Q_NB224_243, Q_NB243_224, Q_NB225_243, Q_NB243_225, Q_NB226_243, Q_NB243_226, Q_BK244, Q_GW244, Q_GE244, Q_NB224_244, Q_NB244_224, Q_NB225_244, Q_NB244_225, Q_NB226_244, Q_NB244_226, Q_BK243_e7, Q_BK244_e8, Q_X4_, Q_X5_, Q_X6_⟩
       clear BK224 BK225 BK226 HB
       have hb1_ := hall 1 (by kernel_rfl)
       have hb2_ := hall 2 (by kernel_rfl)
       have hb3_ := hall 3 (by kernel_rfl)
       have hb4_ := hall 4 (by kernel_rfl)
       have hb5_ := hall 5 (by kernel_rfl)
       have hb6_ := hall 6 (by kernel_rfl)
       have hb7_ := hall 7 (by kernel_rfl)
       have hb8_ := hall 8 (by kernel_rfl)
       subst ha
       obtain rfl := Q_X4_ hb4_
       obtain rfl := Q_X5_ hb5_
       obtain rfl := Q_X6_ hb6_
       simp only [putSel, hb1_, hb2_, hb3_, hb4_, hb5_, hb6_, hb7_, hb8_, if_true, Act.put, sT, sZ, sS]
       have BK224 := aM Q_BK224
       clear Q_BK224
       have BK225 := aM Q_BK225
       clear Q_BK225
       have BK226 := aM Q_BK226
       clear Q_BK226
       have HB := aM Q_HB
       clear Q_HB
       have NB244_243 := aM (Q_NB244_243 hb5_ hb6_)
       clear Q_NB244_243
       have NB243_244 := aM (Q_NB243_244 hb5_ hb6_)
       clear Q_NB243_244
       have HO235 := aM (Q_HO235 hb4_)
       clear Q_HO235
       have HO238 := aM (Q_HO238 hb4_)
       clear Q_HO238
       clear Q_BK243
       have GW243 := aM (Q_GW243 hb5_)
       clear Q_GW243
       have GE243 := aM (Q_GE243 hb5_)
       clear Q_GE243
       have NB224_243 := aM (Q_NB224_243 hb5_)
       clear Q_NB224_243
       have NB243_224 := aM (Q_NB243_224 hb5_)
       clear Q_NB243_224
       have NB225_243 := aM (Q_NB225_243 hb5_)
       clear Q_NB225_243
       have NB243_225 := aM (Q_NB243_225 hb5_)
       clear Q_NB243_225
       have NB226_243 := aM (Q_NB226_243 hb5_)
       clear Q_NB226_243
       have NB243_226 := aM (Q_NB243_226 hb5_)
       clear Q_NB243_226
       clear Q_BK244
       have GW244 := aM (Q_GW244 hb6_)
       clear Q_GW244
       have GE244 := aM (Q_GE244 hb6_)
       clear Q_GE244
       have NB224_244 := aM (Q_NB224_244 hb6_)
       clear Q_NB224_244
       have NB244_224 := aM (Q_NB244_224 hb6_)
       clear Q_NB244_224
       have NB225_244 := aM (Q_NB225_244 hb6_)
       clear Q_NB225_244
       have NB244_225 := aM (Q_NB244_225 hb6_)
       clear Q_NB244_225
       have NB226_244 := aM (Q_NB226_244 hb6_)
       clear Q_NB226_244
       have NB244_226 := aM (Q_NB244_226 hb6_)
       clear Q_NB244_226
       have BK243 := aM (Q_BK243_e7 hb7_)
       clear Q_BK243_e7
       have BK244 := aM (Q_BK244_e8 hb8_)
       clear Q_BK244_e8
       clear hall hb1_ hb2_ hb3_ hb4_ hb5_ hb6_ hb7_ hb8_
       by_cases c38 : a0_0 = 1
       · rw [if_pos c38] at H
         have c38b0 : (a0_0 == 1) = true := beq_iff_eq.mpr c38
         have c38b1 : (a0_0 != 1) = false := bne_eq_false_iff_eq.mpr c38
         clear c38
         replace H := Option.bind_eq_some_iff.mp H
         obtain ⟨t245, A390, H⟩ := H
         replace H : ((cond_Holds.f kj5 a0_0 l0_1 l0_2 l0_3 a0_4 a0_5 a1_0 a1_1 l1_2 l1_3 a1_4 a1_5 a1_6 a1_7).bind fun t246 => (some (t245 == t246))) = some r := H
         have A39 := aM A390
         clear A390
         replace H := Option.bind_eq_some_iff.mp H
         obtain ⟨t246, A400, H⟩ := H
         replace H : (some (t245 == t246)) = some r := H
         have A40 := aM A400
         clear A400
         obtain rfl := Option.some.inj H
         have hnb62 := NB224_225.out
         have hnc62 := NB225_224.out
         have hnb63 := NB224_226.out
         have hnc63 := NB226_224.out
         have hnb64 := NB224_243.out
         have hnc64 := NB243_224.out
         have hnb65 := NB224_244.out
         have hnc65 := NB244_224.out
         have hcz66_0 : w61.cell? ⟨gb224, 0, none⟩ = some (.int .i64 a0_0) := (blk_cell BK224.out 0).trans rfl
         have hcz66_1 : w61.cell? ⟨gb224, 1, none⟩ = some (.slice A0_1 l0_1.length c0_1) := (blk_cell BK224.out 1).trans rfl
         have hcz66_2 : w61.cell? ⟨gb224, 2, none⟩ = some (.slice A0_2 l0_2.length c0_2) := (blk_cell BK224.out 2).trans rfl
         have hcz66_3 : w61.cell? ⟨gb224, 3, none⟩ = some (.slice A0_3 l0_3.length c0_3) := (blk_cell BK224.out 3).trans rfl
         have hcz66_4 : w61.cell? ⟨gb224, 4, none⟩ = some (.int .u32 a0_4) := (blk_cell BK224.out 4).trans rfl
         have hcz66_5 : w61.cell? ⟨gb224, 5, none⟩ = some (.int .u32 a0_5) := (blk_cell BK224.out 5).trans rfl
         have hfz66_0 := bF BK224.out 0
         have hfz66_1 := bF BK224.out 1
         have hfz66_2 := bF BK224.out 2
         have hfz66_3 := bF BK224.out 3
         have hfz66_4 := bF BK224.out 4
         have hfz66_5 := bF BK224.out 5
         try go_wp2
         have n0_ := aM (Kd.R_drew HO235.out)
         have n1_ := aM (Kd.R_drew HO238.out)
         have n2_ := aM (blk_drew BK224.out)
         have n3_ := aM (blk_drew BK225.out)
         have n4_ := aM (blk_drew BK226.out)
         have n5_ := aM (blk_drew BK243.out)
         have n6_ := aM (blk_drew BK244.out)
         have n7_ := aM (below_drew1 HB.out)
         clear HO235
         clear HO238
         clear BK224
         clear BK225
         clear BK226
         clear BK243
         clear BK244
         clear HB
         have HO235 := n0_
         have HO238 := n1_
         have BK224 := n2_
         have BK225 := n3_
         have BK226 := n4_
         have BK243 := n5_
         have BK244 := n6_
         have HB := n7_
         clear n0_ n1_ n2_ n3_ n4_ n5_ n6_ n7_
         refine start_ (n := 8) (S := fun w' => w'.cell? ⟨gb224, 0, none⟩ = some (.int .i64 a0_0) ∧ w'.cell? ⟨gb224, 1, none⟩ = some (.slice A0_1 l0_1.length c0_1) ∧ w'.cell? ⟨gb224, 2, none⟩ = some (.slice A0_2 l0_2.length c0_2) ∧ w'.cell? ⟨gb224, 3, none⟩ = some (.slice A0_3 l0_3.length c0_3) ∧ w'.cell? ⟨gb224, 4, none⟩ = some (.int .u32 a0_4) ∧ w'.cell? ⟨gb224, 5, none⟩ = some (.int .u32 a0_5) ∧ w'.cell? ⟨gb225, 0, none⟩ = some (.int .u32 a1_0) ∧ w'.cell? ⟨gb225, 1, none⟩ = some (.int .i64 a1_1) ∧ w'.cell? ⟨gb225, 2, none⟩ = some (.slice A1_2 l1_2.length c1_2) ∧ w'.cell? ⟨gb225, 3, none⟩ = some (.slice A1_3 l1_3.length c1_3) ∧ w'.cell? ⟨gb225, 4, none⟩ = some (.int .u32 a1_4) ∧ w'.cell? ⟨gb225, 5, none⟩ = some (.int .u32 a1_5) ∧ w'.cell? ⟨gb225, 6, none⟩ = some (.int .i64 a1_6) ∧ w'.cell? ⟨gb225, 7, none⟩ = some (.int .u32 a1_7)) (ds := []) (tf 0 8) (by kernel_rfl) rfl rfl ⟨(blk_cell BK224.out 0).trans rfl, (blk_cell BK224.out 1).trans rfl, (blk_cell BK224.out 2).trans rfl, (blk_cell BK224.out 3).trans rfl, (blk_cell BK224.out 4).trans rfl, (blk_cell BK224.out 5).trans rfl, (blk_cell BK225.out 0).trans rfl, (blk_cell BK225.out 1).trans rfl, (blk_cell BK225.out 2).trans rfl, (blk_cell BK225.out 3).trans rfl, (blk_cell BK225.out 4).trans rfl, (blk_cell BK225.out 5).trans rfl, (blk_cell BK225.out 6).trans rfl, (blk_cell BK225.out 7).trans rfl⟩ (fun hHeld => ?_); refine with_tabW dragomanlaw11_CondOwn.tab9 dragomanlaw11_CondOwn.bits9 (fun HT_ HW_ => ?_)
         generalize w61.drew = w67 at HO235 HO238 BK224 BK225 BK226 BK243 BK244 HB hHeld ⊢
         refine pure_ (i := 0) (N := some 45) (v := ?_) (a' := ?_) (tf 1 7) rfl rfl (any_of HT_.out (by kernel_rfl)) (fun _ _ _ h => h) (Or.inl ⟨by rfl, ?_⟩) ?_ ?_
         rotate_left
         · intro w'
           go_simp
           with_reducible rfl
         rotate_left
         · simp only [Act.put, sT, sZ, sS, i64_w, i32_w]
           rfl
         refine pure_ (i := 2) (N := some 47) (v := ?_) (a' := ?_) #[true, false, true, false, false, false, false, false] rfl rfl (any_of HT_.out (by kernel_rfl)) (fun _ _ _ h => h) (Or.inl ⟨by rfl, ?_⟩) ?_ ?_
         rotate_left
         · intro w'
           go_simp
           with_reducible rfl
         rotate_left
         · simp only [Act.put, sT, sZ, sS, i64_w, i32_w]
           rfl
         refine take_ (i := 1) (N := some 46) (v := ?_) (a' := ?_) (tf 3 5) rfl rfl (take_ofW HT_.out HW_.out (by kernel_rfl)) (fun _ _ _ h => h) (Or.inl ⟨by rfl, ?_⟩) hHeld ?_ ?_
         rotate_left
         · rintro w' ⟨s0, s1, s2, s3, s4, s5, s6, s7, s8, s9, s10, s11, s12, s13⟩
           go_simp
           with_reducible rfl
         rotate_left
         · simp only [Act.put, sT, sZ, sS, i64_w, i32_w]
           rfl
         refine pure_ (i := 4) (N := some 49) (v := ?_) (a' := ?_) #[true, true, true, false, true, false, false, false] rfl rfl (any_of HT_.out (by kernel_rfl)) (fun _ _ _ h => h) (Or.inl ⟨by rfl, ?_⟩) ?_ ?_
         rotate_left
         · intro w'
           go_simp
           with_reducible rfl
         rotate_left
         · simp only [Act.put, sT, sZ, sS, i64_w, i32_w]
           rfl
         refine take_ (i := 3) (N := some 48) (v := ?_) (a' := ?_) (tf 5 3) rfl rfl (take_ofW HT_.out HW_.out (by kernel_rfl)) (fun _ _ _ h => h) (Or.inl ⟨by rfl, ?_⟩) hHeld ?_ ?_
         rotate_left
         · rintro w' ⟨s0, s1, s2, s3, s4, s5, s6, s7, s8, s9, s10, s11, s12, s13⟩
           go_simp
           with_reducible rfl
         rotate_left
         · simp only [Act.put, sT, sZ, sS, i64_w, i32_w]
           rfl
         refine one_ (i := 5) (N := none) (tf 6 2) rfl rfl (one_of HT_.out (by kernel_rfl)) (by decide) (fun K hK => ?_)
         have hs68 : w67.cell? ⟨gb243, 1, none⟩ = some (.slice none 0 0) := (blk_cell BK243.out 1).trans rfl
         have hfs68 := bF BK243.out 1
         have hns68_0 := NB224_243.out
         have hns68_1 := NB225_243.out
         have hns68_2 := NB226_243.out
         have hns68_4 := NB244_243.out
         have hms68_0 := NB243_224.out
         have hms68_1 := NB243_225.out
         have hms68_2 := NB243_226.out
         have hms68_4 := NB243_244.out
         refine skip_ (w1 := ?_) (by rfl) rfl ?_ ?_
         rotate_left
         · go_simp
           rfl
         refine hK.out _ _ ⟨((cell_far (p := ⟨gb243, _, none⟩) NB224_243.out _).trans (hHeld.1)), ((cell_far (p := ⟨gb243, _, none⟩) NB224_243.out _).trans (hHeld.2.1)), ((cell_far (p := ⟨gb243, _, none⟩) NB224_243.out _).trans (hHeld.2.2.1)), ((cell_far (p := ⟨gb243, _, none⟩) NB224_243.out _).trans (hHeld.2.2.2.1)), ((cell_far (p := ⟨gb243, _, none⟩) NB224_243.out _).trans (hHeld.2.2.2.2.1)), ((cell_far (p := ⟨gb243, _, none⟩) NB224_243.out _).trans (hHeld.2.2.2.2.2.1)), ((cell_far (p := ⟨gb243, _, none⟩) NB225_243.out _).trans (hHeld.2.2.2.2.2.2.1)), ((cell_far (p := ⟨gb243, _, none⟩) NB225_243.out _).trans (hHeld.2.2.2.2.2.2.2.1)), ((cell_far (p := ⟨gb243, _, none⟩) NB225_243.out _).trans (hHeld.2.2.2.2.2.2.2.2.1)), ((cell_far (p := ⟨gb243, _, none⟩) NB225_243.out _).trans (hHeld.2.2.2.2.2.2.2.2.2.1)), ((cell_far (p := ⟨gb243, _, none⟩) NB225_243.out _).trans (hHeld.2.2.2.2.2.2.2.2.2.2.1)), ((cell_far (p := ⟨gb243, _, none⟩) NB225_243.out _).trans (hHeld.2.2.2.2.2.2.2.2.2.2.2.1)), ((cell_far (p := ⟨gb243, _, none⟩) NB225_243.out _).trans (hHeld.2.2.2.2.2.2.2.2.2.2.2.2.1)), ((cell_far (p := ⟨gb243, _, none⟩) NB225_243.out _).trans (hHeld.2.2.2.2.2.2.2.2.2.2.2.2.2))⟩ (fun hHeld => ?_)
         clear hK K
         refine pure_ (i := 6) (N := some 50) (v := ?_) (a' := ?_) (tf 7 1) rfl rfl (any_of HT_.out (by kernel_rfl)) (fun _ _ _ h => h) (Or.inl ⟨by rfl, ?_⟩) ?_ ?_
         rotate_left
         · intro w'
           go_simp
           with_reducible rfl
         rotate_left
         · simp only [Act.put, sT, sZ, sS, i64_w, i32_w]
           rfl
         refine one_ (i := 7) (N := none) (tf 8 0) rfl rfl (one_of HT_.out (by kernel_rfl)) (by decide) (fun K hK => ?_)
         have hs69 : w67.cell? ⟨gb244, 0, none⟩ = some (.int .u32 t231) := (blk_cell BK244.out 0).trans rfl
         have hfs69 := bF BK244.out 0
         have hns69_0 := NB224_244.out
         have hns69_1 := NB225_244.out
         have hns69_2 := NB226_244.out
         have hns69_3 := NB243_244.out
         have hms69_0 := NB244_224.out
         have hms69_1 := NB244_225.out
         have hms69_2 := NB244_226.out
         have hms69_3 := NB244_243.out
         have hs70 : w67.cell? ⟨gb244, 1, none⟩ = some (.int .i64 t232) := (blk_cell BK244.out 1).trans rfl
         have hfs70 := bF BK244.out 1
         have hns70_0 := NB224_244.out
         have hns70_1 := NB225_244.out
         have hns70_2 := NB226_244.out
         have hns70_3 := NB243_244.out
         have hms70_0 := NB244_224.out
         have hms70_1 := NB244_225.out
         have hms70_2 := NB244_226.out
         have hms70_3 := NB244_243.out
         refine skip_ (w1 := ?_) (by rfl) rfl ?_ ?_
         rotate_left
         · go_simp
           rfl
         refine hK.out _ _ ⟨((cell_far (p := ⟨gb244, _, none⟩) NB224_244.out _).trans (((cell_far (p := ⟨gb244, _, none⟩) NB224_244.out _).trans (hHeld.1)))), ((cell_far (p := ⟨gb244, _, none⟩) NB224_244.out _).trans (((cell_far (p := ⟨gb244, _, none⟩) NB224_244.out _).trans (hHeld.2.1)))), ((cell_far (p := ⟨gb244, _, none⟩) NB224_244.out _).trans (((cell_far (p := ⟨gb244, _, none⟩) NB224_244.out _).trans (hHeld.2.2.1)))), ((cell_far (p := ⟨gb244, _, none⟩) NB224_244.out _).trans (((cell_far (p := ⟨gb244, _, none⟩) NB224_244.out _).trans (hHeld.2.2.2.1)))), ((cell_far (p := ⟨gb244, _, none⟩) NB224_244.out _).trans (((cell_far (p := ⟨gb244, _, none⟩) NB224_244.out _).trans (hHeld.2.2.2.2.1)))), ((cell_far (p := ⟨gb244, _, none⟩) NB224_244.out _).trans (((cell_far (p := ⟨gb244, _, none⟩) NB224_244.out _).trans (hHeld.2.2.2.2.2.1)))), ((cell_far (p := ⟨gb244, _, none⟩) NB225_244.out _).trans (((cell_far (p := ⟨gb244, _, none⟩) NB225_244.out _).trans (hHeld.2.2.2.2.2.2.1)))), ((cell_far (p := ⟨gb244, _, none⟩) NB225_244.out _).trans (((cell_far (p := ⟨gb244, _, none⟩) NB225_244.out _).trans (hHeld.2.2.2.2.2.2.2.1)))), ((cell_far (p := ⟨gb244, _, none⟩) NB225_244.out _).trans (((cell_far (p := ⟨gb244, _, none⟩) NB225_244.out _).trans (hHeld.2.2.2.2.2.2.2.2.1)))), ((cell_far (p := ⟨gb244, _, none⟩) NB225_244.out _).trans (((cell_far (p := ⟨gb244, _, none⟩) NB225_244.out _).trans (hHeld.2.2.2.2.2.2.2.2.2.1)))), ((cell_far (p := ⟨gb244, _, none⟩) NB225_244.out _).trans (((cell_far (p := ⟨gb244, _, none⟩) NB225_244.out _).trans (hHeld.2.2.2.2.2.2.2.2.2.2.1)))), ((cell_far (p := ⟨gb244, _, none⟩) NB225_244.out _).trans (((cell_far (p := ⟨gb244, _, none⟩) NB225_244.out _).trans (hHeld.2.2.2.2.2.2.2.2.2.2.2.1)))), ((cell_far (p := ⟨gb244, _, none⟩) NB225_244.out _).trans (((cell_far (p := ⟨gb244, _, none⟩) NB225_244.out _).trans (hHeld.2.2.2.2.2.2.2.2.2.2.2.2.1)))), ((cell_far (p := ⟨gb244, _, none⟩) NB225_244.out _).trans (((cell_far (p := ⟨gb244, _, none⟩) NB225_244.out _).trans (hHeld.2.2.2.2.2.2.2.2.2.2.2.2.2))))⟩ (fun hHeld => ?_)
         clear hK K
         refine done_ (done_of HT_.out (by kernel_rfl)) ?_
         try go_wp2
         have n0_ : Aside0 (Kd.R (Kd.int .u32) 36 (((w67.setCell ⟨gb243, 1, none⟩ (.slice A0_1 l0_1.length c0_1)).setCell ⟨gb244, 0, none⟩ (.int .u32 a1_0)).setCell ⟨gb244, 1, none⟩ (.int .i64 a1_1)) w.heap.size (fun k_ => some k_ ≠ (v237 : Value).ownBlock) v234 t233) := ⟨by (with_reducible repeat (first | apply kA | apply kN | apply kD)); exact Kd.R_mono (Kd.R_far (p := ⟨gb244, 1, none⟩) (Kd.R_far (p := ⟨gb244, 0, none⟩) (Kd.R_far (p := ⟨gb243, 1, none⟩) (Kd.R_types (Kd.R_types HO235.out BK243.out (by decide)) BK244.out (by decide)) (fun _ hk => hk.1.2) (.slice A0_1 l0_1.length c0_1)) (fun _ hk => hk.2) (.int .u32 a1_0)) (fun _ hk => hk.2) (.int .i64 a1_1)) (fun _ hk => hk.1.1)⟩
         have n1_ : Aside0 (Kd.R (Kd.int .u32) 36 (((w67.setCell ⟨gb243, 1, none⟩ (.slice A0_1 l0_1.length c0_1)).setCell ⟨gb244, 0, none⟩ (.int .u32 a1_0)).setCell ⟨gb244, 1, none⟩ (.int .i64 a1_1)) w.heap.size (fun k_ => some k_ ≠ (v234 : Value).ownBlock) v237 t236) := ⟨by (with_reducible repeat (first | apply kA | apply kN | apply kD)); exact Kd.R_mono (Kd.R_far (p := ⟨gb244, 1, none⟩) (Kd.R_far (p := ⟨gb244, 0, none⟩) (Kd.R_far (p := ⟨gb243, 1, none⟩) (Kd.R_types (Kd.R_types HO238.out BK243.out (by decide)) BK244.out (by decide)) (fun _ hk => hk.1.2) (.slice A0_1 l0_1.length c0_1)) (fun _ hk => hk.2) (.int .u32 a1_0)) (fun _ hk => hk.2) (.int .i64 a1_1)) (fun _ hk => hk.1.1)⟩
         have n2_ : Aside0 ((((w67.setCell ⟨gb243, 1, none⟩ (.slice A0_1 l0_1.length c0_1)).setCell ⟨gb244, 0, none⟩ (.int .u32 a1_0)).setCell ⟨gb244, 1, none⟩ (.int .i64 a1_1)).heap[gb224]? = some (.cells #[.int .i64 a0_0, .slice A0_1 l0_1.length c0_1, .slice A0_2 l0_2.length c0_2, .slice A0_3 l0_3.length c0_3, .int .u32 a0_4, .int .u32 a0_5] 46 (0, 0))) := ⟨by (with_reducible repeat (first | apply bkN | apply bkD | apply bkA)); refine blk_far ?_ NB224_244.out _; (with_reducible repeat (first | apply bkN | apply bkD | apply bkA)); refine blk_far ?_ NB224_244.out _; (with_reducible repeat (first | apply bkN | apply bkD | apply bkA)); refine blk_far ?_ NB224_243.out _; (with_reducible repeat (first | apply bkN | apply bkD | apply bkA)); exact BK224.out⟩
         have n3_ : Aside0 ((((w67.setCell ⟨gb243, 1, none⟩ (.slice A0_1 l0_1.length c0_1)).setCell ⟨gb244, 0, none⟩ (.int .u32 a1_0)).setCell ⟨gb244, 1, none⟩ (.int .i64 a1_1)).heap[gb225]? = some (.cells #[.int .u32 a1_0, .int .i64 a1_1, .slice A1_2 l1_2.length c1_2, .slice A1_3 l1_3.length c1_3, .int .u32 a1_4, .int .u32 a1_5, .int .i64 a1_6, .int .u32 a1_7] 50 (0, 0))) := ⟨by (with_reducible repeat (first | apply bkN | apply bkD | apply bkA)); refine blk_far ?_ NB225_244.out _; (with_reducible repeat (first | apply bkN | apply bkD | apply bkA)); refine blk_far ?_ NB225_244.out _; (with_reducible repeat (first | apply bkN | apply bkD | apply bkA)); refine blk_far ?_ NB225_243.out _; (with_reducible repeat (first | apply bkN | apply bkD | apply bkA)); exact BK225.out⟩
         have n4_ : Aside0 ((((w67.setCell ⟨gb243, 1, none⟩ (.slice A0_1 l0_1.length c0_1)).setCell ⟨gb244, 0, none⟩ (.int .u32 a1_0)).setCell ⟨gb244, 1, none⟩ (.int .i64 a1_1)).heap[gb226]? = some (.cells #[.int .u32 a2_0, .int .i64 a2_1, .slice A2_2 l2_2.length c2_2, .slice A2_3 l2_3.length c2_3, .int .u32 a2_4, .int .u32 a2_5, .int .i64 a2_6, .int .u32 a2_7] 50 (0, 0))) := ⟨by (with_reducible repeat (first | apply bkN | apply bkD | apply bkA)); refine blk_far ?_ NB226_244.out _; (with_reducible repeat (first | apply bkN | apply bkD | apply bkA)); refine blk_far ?_ NB226_244.out _; (with_reducible repeat (first | apply bkN | apply bkD | apply bkA)); refine blk_far ?_ NB226_243.out _; (with_reducible repeat (first | apply bkN | apply bkD | apply bkA)); exact BK226.out⟩
         have n5_ : Aside0 ((((w67.setCell ⟨gb243, 1, none⟩ (.slice A0_1 l0_1.length c0_1)).setCell ⟨gb244, 0, none⟩ (.int .u32 a1_0)).setCell ⟨gb244, 1, none⟩ (.int .i64 a1_1)).heap[gb243]? = some (.cells #[.int .i64 a0_0, .slice A0_1 l0_1.length c0_1, .slice none 0 0, .slice none 0 0, .int .u32 0, .int .u32 0] 46 (0, 0))) := ⟨by (with_reducible repeat (first | apply bkN | apply bkD | apply bkA)); refine blk_far ?_ NB243_244.out _; (with_reducible repeat (first | apply bkN | apply bkD | apply bkA)); refine blk_far ?_ NB243_244.out _; (with_reducible repeat (first | apply bkN | apply bkD | apply bkA)); refine blk_put (cs := #[.int .i64 a0_0, .slice none 0 0, .slice none 0 0, .slice none 0 0, .int .u32 0, .int .u32 0]) ?_ 1 _ rfl; (with_reducible repeat (first | apply bkN | apply bkD | apply bkA)); exact BK243.out⟩
         have n6_ : Aside0 ((((w67.setCell ⟨gb243, 1, none⟩ (.slice A0_1 l0_1.length c0_1)).setCell ⟨gb244, 0, none⟩ (.int .u32 a1_0)).setCell ⟨gb244, 1, none⟩ (.int .i64 a1_1)).heap[gb244]? = some (.cells #[.int .u32 a1_0, .int .i64 a1_1, v234, v237, .int .u32 t239, .int .u32 t240, .int .i64 t241, .int .u32 t242] 50 (0, 0))) := ⟨by (with_reducible repeat (first | apply bkN | apply bkD | apply bkA)); refine blk_put (cs := #[.int .u32 a1_0, .int .i64 t232, v234, v237, .int .u32 t239, .int .u32 t240, .int .i64 t241, .int .u32 t242]) ?_ 1 _ rfl; (with_reducible repeat (first | apply bkN | apply bkD | apply bkA)); refine blk_put (cs := #[.int .u32 t231, .int .i64 t232, v234, v237, .int .u32 t239, .int .u32 t240, .int .i64 t241, .int .u32 t242]) ?_ 0 _ rfl; (with_reducible repeat (first | apply bkN | apply bkD | apply bkA)); refine blk_far ?_ NB244_243.out _; (with_reducible repeat (first | apply bkN | apply bkD | apply bkA)); exact BK244.out⟩
         have n7_ : Aside0 (Below w.heap.size w (((w67.setCell ⟨gb243, 1, none⟩ (.slice A0_1 l0_1.length c0_1)).setCell ⟨gb244, 0, none⟩ (.int .u32 a1_0)).setCell ⟨gb244, 1, none⟩ (.int .i64 a1_1))) := ⟨by repeat (first | (with_reducible first | exact HB.out | apply blA | apply blN | apply blD | refine bS ?_ GE224.out | refine bS ?_ GE225.out | refine bS ?_ GE226.out | refine bS ?_ GE243.out | refine bS ?_ GE244.out) | exact HB.out)⟩
         (try clear HO235)
         (try clear HO238)
         (try clear BK224)
         (try clear BK225)
         (try clear BK226)
         (try clear BK243)
         (try clear BK244)
         (try clear HB)
         generalize (((w67.setCell ⟨gb243, 1, none⟩ (.slice A0_1 l0_1.length c0_1)).setCell ⟨gb244, 0, none⟩ (.int .u32 a1_0)).setCell ⟨gb244, 1, none⟩ (.int .i64 a1_1)) = w71 at n0_ n1_ n2_ n3_ n4_ n5_ n6_ n7_ ⊢
         have HO235 := n0_
         have HO238 := n1_
         have BK224 := n2_
         have BK225 := n3_
         have BK226 := n4_
         have BK243 := n5_
         have BK244 := n6_
         have HB := n7_
         clear n0_ n1_ n2_ n3_ n4_ n5_ n6_ n7_
         have n0_ := aM (Kd.R_drew HO235.out)
         have n1_ := aM (Kd.R_drew HO238.out)
         have n2_ := aM (blk_drew BK224.out)
         have n3_ := aM (blk_drew BK225.out)
         have n4_ := aM (blk_drew BK226.out)
         have n5_ := aM (blk_drew BK243.out)
         have n6_ := aM (blk_drew BK244.out)
         have n7_ := aM (below_drew1 HB.out)
         clear HO235
         clear HO238
         clear BK224
         clear BK225
         clear BK226
         clear BK243
         clear BK244
         clear HB
         have HO235 := n0_
         have HO238 := n1_
         have BK224 := n2_
         have BK225 := n3_
         have BK226 := n4_
         have BK243 := n5_
         have BK244 := n6_
         have HB := n7_
         clear n0_ n1_ n2_ n3_ n4_ n5_ n6_ n7_
         obtain ⟨Ao73, co73, eo73⟩ := Kd.R_slice HO235.out
         (first | subst eo73 | (injection eo73 with f1_ f2_ f3_; have f4_ := f1_.symm; have f5_ := f3_.symm; clear f1_ f2_ f3_; subst f4_; subst f5_))
         obtain ⟨Ao74, co74, eo74⟩ := Kd.R_slice HO238.out
         (first | subst eo74 | (injection eo74 with f1_ f2_ f3_; have f4_ := f1_.symm; have f5_ := f3_.symm; clear f1_ f2_ f3_; subst f4_; subst f5_))
         refine start_ (n := 8) (S := fun w' => w'.cell? ⟨gb243, 0, none⟩ = some (.int .i64 a0_0) ∧ w'.cell? ⟨gb243, 1, none⟩ = some (.slice A0_1 l0_1.length c0_1) ∧ w'.cell? ⟨gb243, 2, none⟩ = some (.slice none 0 0) ∧ w'.cell? ⟨gb243, 3, none⟩ = some (.slice none 0 0) ∧ w'.cell? ⟨gb243, 4, none⟩ = some (.int .u32 0) ∧ w'.cell? ⟨gb243, 5, none⟩ = some (.int .u32 0) ∧ w'.cell? ⟨gb244, 0, none⟩ = some (.int .u32 a1_0) ∧ w'.cell? ⟨gb244, 1, none⟩ = some (.int .i64 a1_1) ∧ w'.cell? ⟨gb244, 2, none⟩ = some (.slice Ao73 t233.length co73) ∧ w'.cell? ⟨gb244, 3, none⟩ = some (.slice Ao74 t236.length co74) ∧ w'.cell? ⟨gb244, 4, none⟩ = some (.int .u32 t239) ∧ w'.cell? ⟨gb244, 5, none⟩ = some (.int .u32 t240) ∧ w'.cell? ⟨gb244, 6, none⟩ = some (.int .i64 t241) ∧ w'.cell? ⟨gb244, 7, none⟩ = some (.int .u32 t242) ∧ w'.cell? ⟨gb224, 0, none⟩ = some (.int .i64 a0_0) ∧ w'.cell? ⟨gb224, 1, none⟩ = some (.slice A0_1 l0_1.length c0_1) ∧ w'.cell? ⟨gb224, 2, none⟩ = some (.slice A0_2 l0_2.length c0_2) ∧ w'.cell? ⟨gb224, 3, none⟩ = some (.slice A0_3 l0_3.length c0_3) ∧ w'.cell? ⟨gb224, 4, none⟩ = some (.int .u32 a0_4) ∧ w'.cell? ⟨gb224, 5, none⟩ = some (.int .u32 a0_5) ∧ w'.cell? ⟨gb225, 0, none⟩ = some (.int .u32 a1_0) ∧ w'.cell? ⟨gb225, 1, none⟩ = some (.int .i64 a1_1) ∧ w'.cell? ⟨gb225, 2, none⟩ = some (.slice A1_2 l1_2.length c1_2) ∧ w'.cell? ⟨gb225, 3, none⟩ = some (.slice A1_3 l1_3.length c1_3) ∧ w'.cell? ⟨gb225, 4, none⟩ = some (.int .u32 a1_4) ∧ w'.cell? ⟨gb225, 5, none⟩ = some (.int .u32 a1_5) ∧ w'.cell? ⟨gb225, 6, none⟩ = some (.int .i64 a1_6) ∧ w'.cell? ⟨gb225, 7, none⟩ = some (.int .u32 a1_7)) (ds := []) (tf 0 8) (by kernel_rfl) rfl rfl ⟨(blk_cell BK243.out 0).trans rfl, (blk_cell BK243.out 1).trans rfl, (blk_cell BK243.out 2).trans rfl, (blk_cell BK243.out 3).trans rfl, (blk_cell BK243.out 4).trans rfl, (blk_cell BK243.out 5).trans rfl, (blk_cell BK244.out 0).trans rfl, (blk_cell BK244.out 1).trans rfl, (blk_cell BK244.out 2).trans rfl, (blk_cell BK244.out 3).trans rfl, (blk_cell BK244.out 4).trans rfl, (blk_cell BK244.out 5).trans rfl, (blk_cell BK244.out 6).trans rfl, (blk_cell BK244.out 7).trans rfl, (blk_cell BK224.out 0).trans rfl, (blk_cell BK224.out 1).trans rfl, (blk_cell BK224.out 2).trans rfl, (blk_cell BK224.out 3).trans rfl, (blk_cell BK224.out 4).trans rfl, (blk_cell BK224.out 5).trans rfl, (blk_cell BK225.out 0).trans rfl, (blk_cell BK225.out 1).trans rfl, (blk_cell BK225.out 2).trans rfl, (blk_cell BK225.out 3).trans rfl, (blk_cell BK225.out 4).trans rfl, (blk_cell BK225.out 5).trans rfl, (blk_cell BK225.out 6).trans rfl, (blk_cell BK225.out 7).trans rfl⟩ (fun hHeld => ?_); refine with_tabW dragomanlaw11_CondOwn.tab16 dragomanlaw11_CondOwn.bits16 (fun HT_ HW_ => ?_)
         generalize w71.drew = w72 at HO235 HO238 BK224 BK225 BK226 BK243 BK244 HB hHeld ⊢
         refine take_ (i := 0) (N := some 75) (v := ?_) (a' := ?_) (tf 1 7) rfl rfl (take_ofW HT_.out HW_.out (by kernel_rfl)) (fun _ _ _ h => h) (Or.inl ⟨by rfl, ?_⟩) hHeld ?_ ?_
         rotate_left
         · rintro w' ⟨s0, s1, s2, s3, s4, s5, s6, s7, s8, s9, s10, s11, s12, s13, s14, s15, s16, s17, s18, s19, s20, s21, s22, s23, s24, s25, s26, s27⟩
           go_simp
           with_reducible rfl
         rotate_left
         · simp only [Act.put, sT, sZ, sS, i64_w, i32_w]
           rfl
         refine take_ (i := 1) (N := some 76) (v := ?_) (a' := ?_) (tf 2 6) rfl rfl (take_ofW HT_.out HW_.out (by kernel_rfl)) (fun _ _ _ h => h) (Or.inl ⟨by rfl, ?_⟩) hHeld ?_ ?_
         rotate_left
         · rintro w' ⟨s0, s1, s2, s3, s4, s5, s6, s7, s8, s9, s10, s11, s12, s13, s14, s15, s16, s17, s18, s19, s20, s21, s22, s23, s24, s25, s26, s27⟩
           go_simp
           with_reducible rfl
         rotate_left
         · simp only [Act.put, sT, sZ, sS, i64_w, i32_w]
           rfl
         refine take_ (i := 3) (N := some 78) (v := ?_) (a' := ?_) #[true, true, false, true, false, false, false, false] rfl rfl (take_ofW HT_.out HW_.out (by kernel_rfl)) (fun _ _ _ h => h) (Or.inl ⟨by rfl, ?_⟩) hHeld ?_ ?_
         rotate_left
         · rintro w' ⟨s0, s1, s2, s3, s4, s5, s6, s7, s8, s9, s10, s11, s12, s13, s14, s15, s16, s17, s18, s19, s20, s21, s22, s23, s24, s25, s26, s27⟩
           go_simp
           with_reducible rfl
         rotate_left
         · simp only [Act.put, sT, sZ, sS, i64_w, i32_w]
           rfl
         refine take_ (i := 4) (N := some 79) (v := ?_) (a' := ?_) #[true, true, false, true, true, false, false, false] rfl rfl (take_ofW HT_.out HW_.out (by kernel_rfl)) (fun _ _ _ h => h) (Or.inl ⟨by rfl, ?_⟩) hHeld ?_ ?_
         rotate_left
         · rintro w' ⟨s0, s1, s2, s3, s4, s5, s6, s7, s8, s9, s10, s11, s12, s13, s14, s15, s16, s17, s18, s19, s20, s21, s22, s23, s24, s25, s26, s27⟩
           go_simp
           with_reducible rfl
         rotate_left
         · simp only [Act.put, sT, sZ, sS, i64_w, i32_w]
           rfl
         refine one_ (i := 2) (N := some 77) (tf 5 3) rfl rfl (one_of HT_.out (by kernel_rfl)) (by decide) (fun K hK => ?_)
         refine goes_ Try.func34 (by kernel_rfl) rfl #[.agg #[.int .i64 a0_0, .slice A0_1 l0_1.length c0_1, .slice none 0 0, .slice none 0 0, .int .u32 0, .int .u32 0], .agg #[.int .u32 a1_0, .int .i64 a1_1, .slice Ao73 t233.length co73, .slice Ao74 t236.length co74, .int .u32 t239, .int .u32 t240, .int .i64 t241, .int .u32 t242]] (by rfl) rfl rfl (by (try simp only [List.map_toArray, List.map_cons, List.map_nil]); first | done | rfl | (simp only [List.length_drop, List.length_take]; rfl)) ?_
         refine (cond_Holds.calls kj5 a0_0 _ _ l0_1 _ _ ([] : List (S61)) _ _ ([] : List (S64)) 0 0 a1_0 a1_1 _ _ t233 _ _ t236 t239 t240 t241 t242 t245 _ ?side1 ?side2 ?side3 ?side4 ?side5 ?side6 ?side7 ?side8 ?side9 ?side10 A39.out).mono ?_
         (case side1 => repeat (first | exact (Kd.C_below HR0_1.out HB.out) | (with_reducible refine Kd.C_alloc ?_ _) | (with_reducible refine Kd.C_drewN ?_ _) | (with_reducible refine Kd.C_drew ?_)))
         (case side2 => exact HC0_1.out)
         (case side3 => exact Kd.C_nil _ _)
         (case side4 => exact Nat.le_refl _)
         (case side5 => exact Kd.C_nil _ _)
         (case side6 => exact Nat.le_refl _)
         (case side7 => repeat (first | exact (Kd.R_reads' HO235.out).2.2 | (with_reducible refine Kd.C_alloc ?_ _) | (with_reducible refine Kd.C_drewN ?_ _) | (with_reducible refine Kd.C_drew ?_)))
         (case side8 => exact (Kd.R_reads' HO235.out).2.1)
         (case side9 => repeat (first | exact (Kd.R_reads' HO238.out).2.2 | (with_reducible refine Kd.C_alloc ?_ _) | (with_reducible refine Kd.C_drewN ?_ _) | (with_reducible refine Kd.C_drew ?_)))
         (case side10 => exact (Kd.R_reads' HO238.out).2.1)
         rintro e w75 ⟨rfl, hb⟩
         refine ⟨_, rfl, ?_⟩
         have n0_ := aM (Kd.R_below (uk_ HO235.out) hb)
         have n1_ := aM (Kd.R_below (uk_ HO238.out) hb)
         have n2_ := aM (blk_below (g := gb224) (o := .cells #[.int .i64 a0_0, .slice A0_1 l0_1.length c0_1, .slice A0_2 l0_2.length c0_2, .slice A0_3 l0_3.length c0_3, .int .u32 a0_4, .int .u32 a0_5] 46 (0, 0)) (up_ BK224.out) hb)
         have n3_ := aM (blk_below (g := gb225) (o := .cells #[.int .u32 a1_0, .int .i64 a1_1, .slice A1_2 l1_2.length c1_2, .slice A1_3 l1_3.length c1_3, .int .u32 a1_4, .int .u32 a1_5, .int .i64 a1_6, .int .u32 a1_7] 50 (0, 0)) (up_ BK225.out) hb)
         have n4_ := aM (blk_below (g := gb226) (o := .cells #[.int .u32 a2_0, .int .i64 a2_1, .slice A2_2 l2_2.length c2_2, .slice A2_3 l2_3.length c2_3, .int .u32 a2_4, .int .u32 a2_5, .int .i64 a2_6, .int .u32 a2_7] 50 (0, 0)) (up_ BK226.out) hb)
         have n5_ := aM (blk_below (g := gb243) (o := .cells #[.int .i64 a0_0, .slice A0_1 l0_1.length c0_1, .slice none 0 0, .slice none 0 0, .int .u32 0, .int .u32 0] 46 (0, 0)) (up_ BK243.out) hb)
         have n6_ := aM (blk_below (g := gb244) (o := .cells #[.int .u32 a1_0, .int .i64 a1_1, .slice Ao73 t233.length co73, .slice Ao74 t236.length co74, .int .u32 t239, .int .u32 t240, .int .i64 t241, .int .u32 t242] 50 (0, 0)) (up_ BK244.out) hb)
         have n7_ := aM (below_step (bw_ HB.out) hb)
         clear HO235
         clear HO238
         clear BK224
         clear BK225
         clear BK226
         clear BK243
         clear BK244
         clear HB
         have HO235 := n0_
         have HO238 := n1_
         have BK224 := n2_
         have BK225 := n3_
         have BK226 := n4_
         have BK243 := n5_
         have BK244 := n6_
         have HB := n7_
         clear n0_ n1_ n2_ n3_ n4_ n5_ n6_ n7_
         (try clear hb)
         (try clear hb2)
         (try clear hk)
         (try clear hi)
         refine hK.out _ _ ⟨(blk_cell BK243.out 0).trans rfl, (blk_cell BK243.out 1).trans rfl, (blk_cell BK243.out 2).trans rfl, (blk_cell BK243.out 3).trans rfl, (blk_cell BK243.out 4).trans rfl, (blk_cell BK243.out 5).trans rfl, (blk_cell BK244.out 0).trans rfl, (blk_cell BK244.out 1).trans rfl, (blk_cell BK244.out 2).trans rfl, (blk_cell BK244.out 3).trans rfl, (blk_cell BK244.out 4).trans rfl, (blk_cell BK244.out 5).trans rfl, (blk_cell BK244.out 6).trans rfl, (blk_cell BK244.out 7).trans rfl, (blk_cell BK224.out 0).trans rfl, (blk_cell BK224.out 1).trans rfl, (blk_cell BK224.out 2).trans rfl, (blk_cell BK224.out 3).trans rfl, (blk_cell BK224.out 4).trans rfl, (blk_cell BK224.out 5).trans rfl, (blk_cell BK225.out 0).trans rfl, (blk_cell BK225.out 1).trans rfl, (blk_cell BK225.out 2).trans rfl, (blk_cell BK225.out 3).trans rfl, (blk_cell BK225.out 4).trans rfl, (blk_cell BK225.out 5).trans rfl, (blk_cell BK225.out 6).trans rfl, (blk_cell BK225.out 7).trans rfl⟩ (fun hHeld => ?_)
         clear hK K
         refine norm_ (a' := ?_) ?_ ?_
         rotate_left
         · show Act.put _ (some 77) _ = _
           simp only [Act.put, sT, sZ, sS, i64_w, i32_w]
           rfl
         refine one_ (i := 5) (N := some 80) (tf 6 2) rfl rfl (one_of HT_.out (by kernel_rfl)) (by decide) (fun K hK => ?_)
         refine goes_ Try.func34 (by kernel_rfl) rfl #[.agg #[.int .i64 a0_0, .slice A0_1 l0_1.length c0_1, .slice A0_2 l0_2.length c0_2, .slice A0_3 l0_3.length c0_3, .int .u32 a0_4, .int .u32 a0_5], .agg #[.int .u32 a1_0, .int .i64 a1_1, .slice A1_2 l1_2.length c1_2, .slice A1_3 l1_3.length c1_3, .int .u32 a1_4, .int .u32 a1_5, .int .i64 a1_6, .int .u32 a1_7]] (by rfl) rfl rfl (by (try simp only [List.map_toArray, List.map_cons, List.map_nil]); first | done | rfl | (simp only [List.length_drop, List.length_take]; rfl)) ?_
         with_reducible refine (cond_Holds.calls kj5 a0_0 _ _ l0_1 _ _ l0_2 _ _ l0_3 a0_4 a0_5 a1_0 a1_1 _ _ l1_2 _ _ l1_3 a1_4 a1_5 a1_6 a1_7 t246 _ ?side1 ?side2 ?side3 ?side4 ?side5 ?side6 ?side7 ?side8 ?side9 ?side10 A40.out).mono ?_
         (case side1 => repeat (first | exact (Kd.C_below HR0_1.out HB.out) | (with_reducible refine Kd.C_alloc ?_ _) | (with_reducible refine Kd.C_drewN ?_ _) | (with_reducible refine Kd.C_drew ?_)))
         (case side2 => exact HC0_1.out)
         (case side3 => repeat (first | exact (Kd.C_below HR0_2.out HB.out) | (with_reducible refine Kd.C_alloc ?_ _) | (with_reducible refine Kd.C_drewN ?_ _) | (with_reducible refine Kd.C_drew ?_)))
         (case side4 => exact HC0_2.out)
         (case side5 => repeat (first | exact (Kd.C_below HR0_3.out HB.out) | (with_reducible refine Kd.C_alloc ?_ _) | (with_reducible refine Kd.C_drewN ?_ _) | (with_reducible refine Kd.C_drew ?_)))
         (case side6 => exact HC0_3.out)
         (case side7 => repeat (first | exact (Kd.C_below HR1_2.out HB.out) | (with_reducible refine Kd.C_alloc ?_ _) | (with_reducible refine Kd.C_drewN ?_ _) | (with_reducible refine Kd.C_drew ?_)))
         (case side8 => exact HC1_2.out)
         (case side9 => repeat (first | exact (Kd.C_below HR1_3.out HB.out) | (with_reducible refine Kd.C_alloc ?_ _) | (with_reducible refine Kd.C_drewN ?_ _) | (with_reducible refine Kd.C_drew ?_)))
         (case side10 => exact HC1_3.out)
         rintro e w76 ⟨rfl, hb⟩
         refine ⟨_, rfl, ?_⟩
         have n0_ := aM (Kd.R_below (uk_ HO235.out) hb)
         have n1_ := aM (Kd.R_below (uk_ HO238.out) hb)
         have n2_ := aM (blk_below (g := gb224) (o := .cells #[.int .i64 a0_0, .slice A0_1 l0_1.length c0_1, .slice A0_2 l0_2.length c0_2, .slice A0_3 l0_3.length c0_3, .int .u32 a0_4, .int .u32 a0_5] 46 (0, 0)) (up_ BK224.out) hb)
         have n3_ := aM (blk_below (g := gb225) (o := .cells #[.int .u32 a1_0, .int .i64 a1_1, .slice A1_2 l1_2.length c1_2, .slice A1_3 l1_3.length c1_3, .int .u32 a1_4, .int .u32 a1_5, .int .i64 a1_6, .int .u32 a1_7] 50 (0, 0)) (up_ BK225.out) hb)
         have n4_ := aM (blk_below (g := gb226) (o := .cells #[.int .u32 a2_0, .int .i64 a2_1, .slice A2_2 l2_2.length c2_2, .slice A2_3 l2_3.length c2_3, .int .u32 a2_4, .int .u32 a2_5, .int .i64 a2_6, .int .u32 a2_7] 50 (0, 0)) (up_ BK226.out) hb)
         have n5_ := aM (blk_below (g := gb243) (o := .cells #[.int .i64 a0_0, .slice A0_1 l0_1.length c0_1, .slice none 0 0, .slice none 0 0, .int .u32 0, .int .u32 0] 46 (0, 0)) (up_ BK243.out) hb)
         have n6_ := aM (blk_below (g := gb244) (o := .cells #[.int .u32 a1_0, .int .i64 a1_1, .slice Ao73 t233.length co73, .slice Ao74 t236.length co74, .int .u32 t239, .int .u32 t240, .int .i64 t241, .int .u32 t242] 50 (0, 0)) (up_ BK244.out) hb)
         have n7_ := aM (below_step (bw_ HB.out) hb)
         clear HO235
         clear HO238
         clear BK224
         clear BK225
         clear BK226
         clear BK243
         clear BK244
         clear HB
         have HO235 := n0_
         have HO238 := n1_
         have BK224 := n2_
         have BK225 := n3_
         have BK226 := n4_
         have BK243 := n5_
         have BK244 := n6_
         have HB := n7_
         clear n0_ n1_ n2_ n3_ n4_ n5_ n6_ n7_
         (try clear hb)
         (try clear hb2)
         (try clear hk)
         (try clear hi)
         refine hK.out _ _ ⟨(blk_cell BK243.out 0).trans rfl, (blk_cell BK243.out 1).trans rfl, (blk_cell BK243.out 2).trans rfl, (blk_cell BK243.out 3).trans rfl, (blk_cell BK243.out 4).trans rfl, (blk_cell BK243.out 5).trans rfl, (blk_cell BK244.out 0).trans rfl, (blk_cell BK244.out 1).trans rfl, (blk_cell BK244.out 2).trans rfl, (blk_cell BK244.out 3).trans rfl, (blk_cell BK244.out 4).trans rfl, (blk_cell BK244.out 5).trans rfl, (blk_cell BK244.out 6).trans rfl, (blk_cell BK244.out 7).trans rfl, (blk_cell BK224.out 0).trans rfl, (blk_cell BK224.out 1).trans rfl, (blk_cell BK224.out 2).trans rfl, (blk_cell BK224.out 3).trans rfl, (blk_cell BK224.out 4).trans rfl, (blk_cell BK224.out 5).trans rfl, (blk_cell BK225.out 0).trans rfl, (blk_cell BK225.out 1).trans rfl, (blk_cell BK225.out 2).trans rfl, (blk_cell BK225.out 3).trans rfl, (blk_cell BK225.out 4).trans rfl, (blk_cell BK225.out 5).trans rfl, (blk_cell BK225.out 6).trans rfl, (blk_cell BK225.out 7).trans rfl⟩ (fun hHeld => ?_)
         clear hK K
         refine norm_ (a' := ?_) ?_ ?_
         rotate_left
         · show Act.put _ (some 80) _ = _
           simp only [Act.put, sT, sZ, sS, i64_w, i32_w]
           rfl
         refine pure_ (i := 6) (N := some 81) (v := ?_) (a' := ?_) (tf 7 1) rfl rfl (any_of HT_.out (by kernel_rfl)) (fun _ _ _ h => h) (Or.inl ⟨by rfl, ?_⟩) ?_ ?_
         rotate_left
         · intro w'
           go_simp
           with_reducible rfl
         rotate_left
         · simp only [Act.put, sT, sZ, sS, i64_w, i32_w]
           rfl
         refine pure_ (i := 7) (N := some 6) (v := ?_) (a' := ?_) (tf 8 0) rfl rfl (any_of HT_.out (by kernel_rfl)) (fun _ _ _ h => h) (Or.inl ⟨by rfl, ?_⟩) ?_ ?_
         rotate_left
         · intro w'
           go_simp
           with_reducible rfl
         rotate_left
         · simp only [Act.put, sT, sZ, sS, i64_w, i32_w]
           rfl
         refine done_ (done_of HT_.out (by kernel_rfl)) ?_
         try go_wp2
         first | go_ret | refine ⟨_, results_tmp rfl _ _ _, ?_⟩
         exact ⟨by first | rfl | (simp [errW_none, errW_some] <;> rfl) | (simp [*, errW_none, errW_some] <;> rfl), by repeat (first | (with_reducible first | exact HB.out | apply blA | apply blN | apply blD | refine bS ?_ GE224.out | refine bS ?_ GE225.out | refine bS ?_ GE226.out | refine bS ?_ GE243.out | refine bS ?_ GE244.out) | exact HB.out)⟩
       · rw [if_neg c38] at H
         have c38b0 : (a0_0 == 1) = false := beq_eq_false_iff_ne.mpr c38
         have c38b1 : (a0_0 != 1) = true := bne_iff_ne.mpr c38
         by_cases c77 : a0_0 = 2
         · rw [if_pos c77] at H
           have c77b0 : (a0_0 == 2) = true := beq_iff_eq.mpr c77
           have c77b1 : (a0_0 != 2) = false := bne_eq_false_iff_eq.mpr c77
           clear c77
           replace H := Option.bind_eq_some_iff.mp H
           obtain ⟨t247, A780, H⟩ := H
           replace H : ((cond_Holds.f kj5 a0_0 l0_1 l0_2 l0_3 a0_4 a0_5 a1_0 a1_1 l1_2 l1_3 a1_4 a1_5 a1_6 a1_7).bind fun t248 => (some (t247 == t248))) = some r := H
           have A78 := aM A780
           clear A780
           replace H := Option.bind_eq_some_iff.mp H
           obtain ⟨t248, A790, H⟩ := H
           replace H : (some (t247 == t248)) = some r := H
           have A79 := aM A790
           clear A790
           obtain rfl := Option.some.inj H
           have hnb101 := NB224_225.out
           have hnc101 := NB225_224.out
           have hnb102 := NB224_226.out
           have hnc102 := NB226_224.out
           have hnb103 := NB224_243.out
           have hnc103 := NB243_224.out
           have hnb104 := NB224_244.out
           have hnc104 := NB244_224.out
           have hcz105_0 : w61.cell? ⟨gb224, 0, none⟩ = some (.int .i64 a0_0) := (blk_cell BK224.out 0).trans rfl
           have hcz105_1 : w61.cell? ⟨gb224, 1, none⟩ = some (.slice A0_1 l0_1.length c0_1) := (blk_cell BK224.out 1).trans rfl
           have hcz105_2 : w61.cell? ⟨gb224, 2, none⟩ = some (.slice A0_2 l0_2.length c0_2) := (blk_cell BK224.out 2).trans rfl
           have hcz105_3 : w61.cell? ⟨gb224, 3, none⟩ = some (.slice A0_3 l0_3.length c0_3) := (blk_cell BK224.out 3).trans rfl
           have hcz105_4 : w61.cell? ⟨gb224, 4, none⟩ = some (.int .u32 a0_4) := (blk_cell BK224.out 4).trans rfl
           have hcz105_5 : w61.cell? ⟨gb224, 5, none⟩ = some (.int .u32 a0_5) := (blk_cell BK224.out 5).trans rfl
           have hfz105_0 := bF BK224.out 0
           have hfz105_1 := bF BK224.out 1
           have hfz105_2 := bF BK224.out 2
           have hfz105_3 := bF BK224.out 3
           have hfz105_4 := bF BK224.out 4
           have hfz105_5 := bF BK224.out 5
           try go_wp2
           have n0_ := aM (Kd.R_drew HO235.out)
           have n1_ := aM (Kd.R_drew HO238.out)
           have n2_ := aM (blk_drew BK224.out)
           have n3_ := aM (blk_drew BK225.out)
           have n4_ := aM (blk_drew BK226.out)
           have n5_ := aM (blk_drew BK243.out)
           have n6_ := aM (blk_drew BK244.out)
           have n7_ := aM (below_drew1 HB.out)
           clear HO235
           clear HO238
           clear BK224
           clear BK225
           clear BK226
           clear BK243
           clear BK244
           clear HB
           have HO235 := n0_
           have HO238 := n1_
           have BK224 := n2_
           have BK225 := n3_
           have BK226 := n4_
           have BK243 := n5_
           have BK244 := n6_
           have HB := n7_
           clear n0_ n1_ n2_ n3_ n4_ n5_ n6_ n7_
           refine start_ (n := 8) (S := fun w' => w'.cell? ⟨gb224, 0, none⟩ = some (.int .i64 a0_0) ∧ w'.cell? ⟨gb224, 1, none⟩ = some (.slice A0_1 l0_1.length c0_1) ∧ w'.cell? ⟨gb224, 2, none⟩ = some (.slice A0_2 l0_2.length c0_2) ∧ w'.cell? ⟨gb224, 3, none⟩ = some (.slice A0_3 l0_3.length c0_3) ∧ w'.cell? ⟨gb224, 4, none⟩ = some (.int .u32 a0_4) ∧ w'.cell? ⟨gb224, 5, none⟩ = some (.int .u32 a0_5) ∧ w'.cell? ⟨gb225, 0, none⟩ = some (.int .u32 a1_0) ∧ w'.cell? ⟨gb225, 1, none⟩ = some (.int .i64 a1_1) ∧ w'.cell? ⟨gb225, 2, none⟩ = some (.slice A1_2 l1_2.length c1_2) ∧ w'.cell? ⟨gb225, 3, none⟩ = some (.slice A1_3 l1_3.length c1_3) ∧ w'.cell? ⟨gb225, 4, none⟩ = some (.int .u32 a1_4) ∧ w'.cell? ⟨gb225, 5, none⟩ = some (.int .u32 a1_5) ∧ w'.cell? ⟨gb225, 6, none⟩ = some (.int .i64 a1_6) ∧ w'.cell? ⟨gb225, 7, none⟩ = some (.int .u32 a1_7)) (ds := []) (tf 0 8) (by kernel_rfl) rfl rfl ⟨(blk_cell BK224.out 0).trans rfl, (blk_cell BK224.out 1).trans rfl, (blk_cell BK224.out 2).trans rfl, (blk_cell BK224.out 3).trans rfl, (blk_cell BK224.out 4).trans rfl, (blk_cell BK224.out 5).trans rfl, (blk_cell BK225.out 0).trans rfl, (blk_cell BK225.out 1).trans rfl, (blk_cell BK225.out 2).trans rfl, (blk_cell BK225.out 3).trans rfl, (blk_cell BK225.out 4).trans rfl, (blk_cell BK225.out 5).trans rfl, (blk_cell BK225.out 6).trans rfl, (blk_cell BK225.out 7).trans rfl⟩ (fun hHeld => ?_); refine with_tabW dragomanlaw11_CondOwn.tab11 dragomanlaw11_CondOwn.bits11 (fun HT_ HW_ => ?_)
           generalize w61.drew = w106 at HO235 HO238 BK224 BK225 BK226 BK243 BK244 HB hHeld ⊢
           refine pure_ (i := 0) (N := some 53) (v := ?_) (a' := ?_) (tf 1 7) rfl rfl (any_of HT_.out (by kernel_rfl)) (fun _ _ _ h => h) (Or.inl ⟨by rfl, ?_⟩) ?_ ?_
           rotate_left
           · intro w'
             go_simp
             with_reducible rfl
           rotate_left
           · simp only [Act.put, sT, sZ, sS, i64_w, i32_w]
             rfl
           refine pure_ (i := 2) (N := some 55) (v := ?_) (a' := ?_) #[true, false, true, false, false, false, false, false] rfl rfl (any_of HT_.out (by kernel_rfl)) (fun _ _ _ h => h) (Or.inl ⟨by rfl, ?_⟩) ?_ ?_
           rotate_left
           · intro w'
             go_simp
             with_reducible rfl
           rotate_left
           · simp only [Act.put, sT, sZ, sS, i64_w, i32_w]
             rfl
           refine take_ (i := 1) (N := some 54) (v := ?_) (a' := ?_) (tf 3 5) rfl rfl (take_ofW HT_.out HW_.out (by kernel_rfl)) (fun _ _ _ h => h) (Or.inl ⟨by rfl, ?_⟩) hHeld ?_ ?_
           rotate_left
           · rintro w' ⟨s0, s1, s2, s3, s4, s5, s6, s7, s8, s9, s10, s11, s12, s13⟩
             go_simp
             with_reducible rfl
           rotate_left
           · simp only [Act.put, sT, sZ, sS, i64_w, i32_w]
             rfl
           refine pure_ (i := 4) (N := some 57) (v := ?_) (a' := ?_) #[true, true, true, false, true, false, false, false] rfl rfl (any_of HT_.out (by kernel_rfl)) (fun _ _ _ h => h) (Or.inl ⟨by rfl, ?_⟩) ?_ ?_
           rotate_left
           · intro w'
             go_simp
             with_reducible rfl
           rotate_left
           · simp only [Act.put, sT, sZ, sS, i64_w, i32_w]
             rfl
           refine take_ (i := 3) (N := some 56) (v := ?_) (a' := ?_) (tf 5 3) rfl rfl (take_ofW HT_.out HW_.out (by kernel_rfl)) (fun _ _ _ h => h) (Or.inl ⟨by rfl, ?_⟩) hHeld ?_ ?_
           rotate_left
           · rintro w' ⟨s0, s1, s2, s3, s4, s5, s6, s7, s8, s9, s10, s11, s12, s13⟩
             go_simp
             with_reducible rfl
           rotate_left
           · simp only [Act.put, sT, sZ, sS, i64_w, i32_w]
             rfl
           refine one_ (i := 5) (N := none) (tf 6 2) rfl rfl (one_of HT_.out (by kernel_rfl)) (by decide) (fun K hK => ?_)
           have hs107 : w106.cell? ⟨gb243, 2, none⟩ = some (.slice none 0 0) := (blk_cell BK243.out 2).trans rfl
           have hfs107 := bF BK243.out 2
           have hns107_0 := NB224_243.out
           have hns107_1 := NB225_243.out
           have hns107_2 := NB226_243.out
           have hns107_4 := NB244_243.out
           have hms107_0 := NB243_224.out
           have hms107_1 := NB243_225.out
           have hms107_2 := NB243_226.out
           have hms107_4 := NB243_244.out
           refine skip_ (w1 := ?_) (by rfl) rfl ?_ ?_
           rotate_left
           · go_simp
             rfl
           refine hK.out _ _ ⟨((cell_far (p := ⟨gb243, _, none⟩) NB224_243.out _).trans (hHeld.1)), ((cell_far (p := ⟨gb243, _, none⟩) NB224_243.out _).trans (hHeld.2.1)), ((cell_far (p := ⟨gb243, _, none⟩) NB224_243.out _).trans (hHeld.2.2.1)), ((cell_far (p := ⟨gb243, _, none⟩) NB224_243.out _).trans (hHeld.2.2.2.1)), ((cell_far (p := ⟨gb243, _, none⟩) NB224_243.out _).trans (hHeld.2.2.2.2.1)), ((cell_far (p := ⟨gb243, _, none⟩) NB224_243.out _).trans (hHeld.2.2.2.2.2.1)), ((cell_far (p := ⟨gb243, _, none⟩) NB225_243.out _).trans (hHeld.2.2.2.2.2.2.1)), ((cell_far (p := ⟨gb243, _, none⟩) NB225_243.out _).trans (hHeld.2.2.2.2.2.2.2.1)), ((cell_far (p := ⟨gb243, _, none⟩) NB225_243.out _).trans (hHeld.2.2.2.2.2.2.2.2.1)), ((cell_far (p := ⟨gb243, _, none⟩) NB225_243.out _).trans (hHeld.2.2.2.2.2.2.2.2.2.1)), ((cell_far (p := ⟨gb243, _, none⟩) NB225_243.out _).trans (hHeld.2.2.2.2.2.2.2.2.2.2.1)), ((cell_far (p := ⟨gb243, _, none⟩) NB225_243.out _).trans (hHeld.2.2.2.2.2.2.2.2.2.2.2.1)), ((cell_far (p := ⟨gb243, _, none⟩) NB225_243.out _).trans (hHeld.2.2.2.2.2.2.2.2.2.2.2.2.1)), ((cell_far (p := ⟨gb243, _, none⟩) NB225_243.out _).trans (hHeld.2.2.2.2.2.2.2.2.2.2.2.2.2))⟩ (fun hHeld => ?_)
           clear hK K
           refine pure_ (i := 6) (N := some 58) (v := ?_) (a' := ?_) (tf 7 1) rfl rfl (any_of HT_.out (by kernel_rfl)) (fun _ _ _ h => h) (Or.inl ⟨by rfl, ?_⟩) ?_ ?_
           rotate_left
           · intro w'
             go_simp
             with_reducible rfl
           rotate_left
           · simp only [Act.put, sT, sZ, sS, i64_w, i32_w]
             rfl
           refine one_ (i := 7) (N := none) (tf 8 0) rfl rfl (one_of HT_.out (by kernel_rfl)) (by decide) (fun K hK => ?_)
           have hs108 : w106.cell? ⟨gb244, 2, none⟩ = some (v234) := (blk_cell BK244.out 2).trans rfl
           have hfs108 := bF BK244.out 2
           have hns108_0 := NB224_244.out
           have hns108_1 := NB225_244.out
           have hns108_2 := NB226_244.out
           have hns108_3 := NB243_244.out
           have hms108_0 := NB244_224.out
           have hms108_1 := NB244_225.out
           have hms108_2 := NB244_226.out
           have hms108_3 := NB244_243.out
           refine skip_ (w1 := ?_) (by rfl) rfl ?_ ?_
           rotate_left
           · go_simp
             rfl
           refine hK.out _ _ ⟨((cell_far (p := ⟨gb244, _, none⟩) NB224_244.out _).trans (hHeld.1)), ((cell_far (p := ⟨gb244, _, none⟩) NB224_244.out _).trans (hHeld.2.1)), ((cell_far (p := ⟨gb244, _, none⟩) NB224_244.out _).trans (hHeld.2.2.1)), ((cell_far (p := ⟨gb244, _, none⟩) NB224_244.out _).trans (hHeld.2.2.2.1)), ((cell_far (p := ⟨gb244, _, none⟩) NB224_244.out _).trans (hHeld.2.2.2.2.1)), ((cell_far (p := ⟨gb244, _, none⟩) NB224_244.out _).trans (hHeld.2.2.2.2.2.1)), ((cell_far (p := ⟨gb244, _, none⟩) NB225_244.out _).trans (hHeld.2.2.2.2.2.2.1)), ((cell_far (p := ⟨gb244, _, none⟩) NB225_244.out _).trans (hHeld.2.2.2.2.2.2.2.1)), ((cell_far (p := ⟨gb244, _, none⟩) NB225_244.out _).trans (hHeld.2.2.2.2.2.2.2.2.1)), ((cell_far (p := ⟨gb244, _, none⟩) NB225_244.out _).trans (hHeld.2.2.2.2.2.2.2.2.2.1)), ((cell_far (p := ⟨gb244, _, none⟩) NB225_244.out _).trans (hHeld.2.2.2.2.2.2.2.2.2.2.1)), ((cell_far (p := ⟨gb244, _, none⟩) NB225_244.out _).trans (hHeld.2.2.2.2.2.2.2.2.2.2.2.1)), ((cell_far (p := ⟨gb244, _, none⟩) NB225_244.out _).trans (hHeld.2.2.2.2.2.2.2.2.2.2.2.2.1)), ((cell_far (p := ⟨gb244, _, none⟩) NB225_244.out _).trans (hHeld.2.2.2.2.2.2.2.2.2.2.2.2.2))⟩ (fun hHeld => ?_)
           clear hK K
           refine done_ (done_of HT_.out (by kernel_rfl)) ?_
           try go_wp2
           have n0_ : Aside0 (Kd.R (Kd.int .u32) 36 ((w106.setCell ⟨gb243, 2, none⟩ (.slice A0_2 l0_2.length c0_2)).setCell ⟨gb244, 2, none⟩ (.slice A1_2 l1_2.length c1_2)) w.heap.size (fun k_ => some k_ ≠ (v237 : Value).ownBlock) v234 t233) := ⟨by (with_reducible repeat (first | apply kA | apply kN | apply kD)); exact Kd.R_mono (Kd.R_far (p := ⟨gb244, 2, none⟩) (Kd.R_far (p := ⟨gb243, 2, none⟩) (Kd.R_types (Kd.R_types HO235.out BK243.out (by decide)) BK244.out (by decide)) (fun _ hk => hk.1.2) (.slice A0_2 l0_2.length c0_2)) (fun _ hk => hk.2) (.slice A1_2 l1_2.length c1_2)) (fun _ hk => hk.1.1)⟩
           have n1_ : Aside0 (Kd.R (Kd.int .u32) 36 ((w106.setCell ⟨gb243, 2, none⟩ (.slice A0_2 l0_2.length c0_2)).setCell ⟨gb244, 2, none⟩ (.slice A1_2 l1_2.length c1_2)) w.heap.size (fun k_ => some k_ ≠ (v234 : Value).ownBlock) v237 t236) := ⟨by (with_reducible repeat (first | apply kA | apply kN | apply kD)); exact Kd.R_mono (Kd.R_far (p := ⟨gb244, 2, none⟩) (Kd.R_far (p := ⟨gb243, 2, none⟩) (Kd.R_types (Kd.R_types HO238.out BK243.out (by decide)) BK244.out (by decide)) (fun _ hk => hk.1.2) (.slice A0_2 l0_2.length c0_2)) (fun _ hk => hk.2) (.slice A1_2 l1_2.length c1_2)) (fun _ hk => hk.1.1)⟩
           have n2_ : Aside0 (((w106.setCell ⟨gb243, 2, none⟩ (.slice A0_2 l0_2.length c0_2)).setCell ⟨gb244, 2, none⟩ (.slice A1_2 l1_2.length c1_2)).heap[gb224]? = some (.cells #[.int .i64 a0_0, .slice A0_1 l0_1.length c0_1, .slice A0_2 l0_2.length c0_2, .slice A0_3 l0_3.length c0_3, .int .u32 a0_4, .int .u32 a0_5] 46 (0, 0))) := ⟨by (with_reducible repeat (first | apply bkN | apply bkD | apply bkA)); refine blk_far ?_ NB224_244.out _; (with_reducible repeat (first | apply bkN | apply bkD | apply bkA)); refine blk_far ?_ NB224_243.out _; (with_reducible repeat (first | apply bkN | apply bkD | apply bkA)); exact BK224.out⟩
           have n3_ : Aside0 (((w106.setCell ⟨gb243, 2, none⟩ (.slice A0_2 l0_2.length c0_2)).setCell ⟨gb244, 2, none⟩ (.slice A1_2 l1_2.length c1_2)).heap[gb225]? = some (.cells #[.int .u32 a1_0, .int .i64 a1_1, .slice A1_2 l1_2.length c1_2, .slice A1_3 l1_3.length c1_3, .int .u32 a1_4, .int .u32 a1_5, .int .i64 a1_6, .int .u32 a1_7] 50 (0, 0))) := ⟨by (with_reducible repeat (first | apply bkN | apply bkD | apply bkA)); refine blk_far ?_ NB225_244.out _; (with_reducible repeat (first | apply bkN | apply bkD | apply bkA)); refine blk_far ?_ NB225_243.out _; (with_reducible repeat (first | apply bkN | apply bkD | apply bkA)); exact BK225.out⟩
           have n4_ : Aside0 (((w106.setCell ⟨gb243, 2, none⟩ (.slice A0_2 l0_2.length c0_2)).setCell ⟨gb244, 2, none⟩ (.slice A1_2 l1_2.length c1_2)).heap[gb226]? = some (.cells #[.int .u32 a2_0, .int .i64 a2_1, .slice A2_2 l2_2.length c2_2, .slice A2_3 l2_3.length c2_3, .int .u32 a2_4, .int .u32 a2_5, .int .i64 a2_6, .int .u32 a2_7] 50 (0, 0))) := ⟨by (with_reducible repeat (first | apply bkN | apply bkD | apply bkA)); refine blk_far ?_ NB226_244.out _; (with_reducible repeat (first | apply bkN | apply bkD | apply bkA)); refine blk_far ?_ NB226_243.out _; (with_reducible repeat (first | apply bkN | apply bkD | apply bkA)); exact BK226.out⟩
           have n5_ : Aside0 (((w106.setCell ⟨gb243, 2, none⟩ (.slice A0_2 l0_2.length c0_2)).setCell ⟨gb244, 2, none⟩ (.slice A1_2 l1_2.length c1_2)).heap[gb243]? = some (.cells #[.int .i64 a0_0, .slice none 0 0, .slice A0_2 l0_2.length c0_2, .slice none 0 0, .int .u32 0, .int .u32 0] 46 (0, 0))) := ⟨by (with_reducible repeat (first | apply bkN | apply bkD | apply bkA)); refine blk_far ?_ NB243_244.out _; (with_reducible repeat (first | apply bkN | apply bkD | apply bkA)); refine blk_put (cs := #[.int .i64 a0_0, .slice none 0 0, .slice none 0 0, .slice none 0 0, .int .u32 0, .int .u32 0]) ?_ 2 _ rfl; (with_reducible repeat (first | apply bkN | apply bkD | apply bkA)); exact BK243.out⟩
           have n6_ : Aside0 (((w106.setCell ⟨gb243, 2, none⟩ (.slice A0_2 l0_2.length c0_2)).setCell ⟨gb244, 2, none⟩ (.slice A1_2 l1_2.length c1_2)).heap[gb244]? = some (.cells #[.int .u32 t231, .int .i64 t232, .slice A1_2 l1_2.length c1_2, v237, .int .u32 t239, .int .u32 t240, .int .i64 t241, .int .u32 t242] 50 (0, 0))) := ⟨by (with_reducible repeat (first | apply bkN | apply bkD | apply bkA)); refine blk_put (cs := #[.int .u32 t231, .int .i64 t232, v234, v237, .int .u32 t239, .int .u32 t240, .int .i64 t241, .int .u32 t242]) ?_ 2 _ rfl; (with_reducible repeat (first | apply bkN | apply bkD | apply bkA)); refine blk_far ?_ NB244_243.out _; (with_reducible repeat (first | apply bkN | apply bkD | apply bkA)); exact BK244.out⟩
           have n7_ : Aside0 (Below w.heap.size w ((w106.setCell ⟨gb243, 2, none⟩ (.slice A0_2 l0_2.length c0_2)).setCell ⟨gb244, 2, none⟩ (.slice A1_2 l1_2.length c1_2))) := ⟨by repeat (first | (with_reducible first | exact HB.out | apply blA | apply blN | apply blD | refine bS ?_ GE224.out | refine bS ?_ GE225.out | refine bS ?_ GE226.out | refine bS ?_ GE243.out | refine bS ?_ GE244.out) | exact HB.out)⟩
           (try clear HO235)
           (try clear HO238)
           (try clear BK224)
           (try clear BK225)
           (try clear BK226)
           (try clear BK243)
           (try clear BK244)
           (try clear HB)
           generalize ((w106.setCell ⟨gb243, 2, none⟩ (.slice A0_2 l0_2.length c0_2)).setCell ⟨gb244, 2, none⟩ (.slice A1_2 l1_2.length c1_2)) = w109 at n0_ n1_ n2_ n3_ n4_ n5_ n6_ n7_ ⊢
           have HO235 := n0_
           have HO238 := n1_
           have BK224 := n2_
           have BK225 := n3_
           have BK226 := n4_
           have BK243 := n5_
           have BK244 := n6_
           have HB := n7_
           clear n0_ n1_ n2_ n3_ n4_ n5_ n6_ n7_
           have n0_ := aM (Kd.R_drew HO235.out)
           have n1_ := aM (Kd.R_drew HO238.out)
           have n2_ := aM (blk_drew BK224.out)
           have n3_ := aM (blk_drew BK225.out)
           have n4_ := aM (blk_drew BK226.out)
           have n5_ := aM (blk_drew BK243.out)
           have n6_ := aM (blk_drew BK244.out)
           have n7_ := aM (below_drew1 HB.out)
           clear HO235
           clear HO238
           clear BK224
           clear BK225
           clear BK226
           clear BK243
           clear BK244
           clear HB
           have HO235 := n0_
           have HO238 := n1_
           have BK224 := n2_
           have BK225 := n3_
           have BK226 := n4_
           have BK243 := n5_
           have BK244 := n6_
           have HB := n7_
           clear n0_ n1_ n2_ n3_ n4_ n5_ n6_ n7_
           obtain ⟨Ao111, co111, eo111⟩ := Kd.R_slice HO238.out
           (first | subst eo111 | (injection eo111 with f1_ f2_ f3_; have f4_ := f1_.symm; have f5_ := f3_.symm; clear f1_ f2_ f3_; subst f4_; subst f5_))
           refine start_ (n := 8) (S := fun w' => w'.cell? ⟨gb243, 0, none⟩ = some (.int .i64 a0_0) ∧ w'.cell? ⟨gb243, 1, none⟩ = some (.slice none 0 0) ∧ w'.cell? ⟨gb243, 2, none⟩ = some (.slice A0_2 l0_2.length c0_2) ∧ w'.cell? ⟨gb243, 3, none⟩ = some (.slice none 0 0) ∧ w'.cell? ⟨gb243, 4, none⟩ = some (.int .u32 0) ∧ w'.cell? ⟨gb243, 5, none⟩ = some (.int .u32 0) ∧ w'.cell? ⟨gb244, 0, none⟩ = some (.int .u32 t231) ∧ w'.cell? ⟨gb244, 1, none⟩ = some (.int .i64 t232) ∧ w'.cell? ⟨gb244, 2, none⟩ = some (.slice A1_2 l1_2.length c1_2) ∧ w'.cell? ⟨gb244, 3, none⟩ = some (.slice Ao111 t236.length co111) ∧ w'.cell? ⟨gb244, 4, none⟩ = some (.int .u32 t239) ∧ w'.cell? ⟨gb244, 5, none⟩ = some (.int .u32 t240) ∧ w'.cell? ⟨gb244, 6, none⟩ = some (.int .i64 t241) ∧ w'.cell? ⟨gb244, 7, none⟩ = some (.int .u32 t242) ∧ w'.cell? ⟨gb224, 0, none⟩ = some (.int .i64 a0_0) ∧ w'.cell? ⟨gb224, 1, none⟩ = some (.slice A0_1 l0_1.length c0_1) ∧ w'.cell? ⟨gb224, 2, none⟩ = some (.slice A0_2 l0_2.length c0_2) ∧ w'.cell? ⟨gb224, 3, none⟩ = some (.slice A0_3 l0_3.length c0_3) ∧ w'.cell? ⟨gb224, 4, none⟩ = some (.int .u32 a0_4) ∧ w'.cell? ⟨gb224, 5, none⟩ = some (.int .u32 a0_5) ∧ w'.cell? ⟨gb225, 0, none⟩ = some (.int .u32 a1_0) ∧ w'.cell? ⟨gb225, 1, none⟩ = some (.int .i64 a1_1) ∧ w'.cell? ⟨gb225, 2, none⟩ = some (.slice A1_2 l1_2.length c1_2) ∧ w'.cell? ⟨gb225, 3, none⟩ = some (.slice A1_3 l1_3.length c1_3) ∧ w'.cell? ⟨gb225, 4, none⟩ = some (.int .u32 a1_4) ∧ w'.cell? ⟨gb225, 5, none⟩ = some (.int .u32 a1_5) ∧ w'.cell? ⟨gb225, 6, none⟩ = some (.int .i64 a1_6) ∧ w'.cell? ⟨gb225, 7, none⟩ = some (.int .u32 a1_7)) (ds := []) (tf 0 8) (by kernel_rfl) rfl rfl ⟨(blk_cell BK243.out 0).trans rfl, (blk_cell BK243.out 1).trans rfl, (blk_cell BK243.out 2).trans rfl, (blk_cell BK243.out 3).trans rfl, (blk_cell BK243.out 4).trans rfl, (blk_cell BK243.out 5).trans rfl, (blk_cell BK244.out 0).trans rfl, (blk_cell BK244.out 1).trans rfl, (blk_cell BK244.out 2).trans rfl, (blk_cell BK244.out 3).trans rfl, (blk_cell BK244.out 4).trans rfl, (blk_cell BK244.out 5).trans rfl, (blk_cell BK244.out 6).trans rfl, (blk_cell BK244.out 7).trans rfl, (blk_cell BK224.out 0).trans rfl, (blk_cell BK224.out 1).trans rfl, (blk_cell BK224.out 2).trans rfl, (blk_cell BK224.out 3).trans rfl, (blk_cell BK224.out 4).trans rfl, (blk_cell BK224.out 5).trans rfl, (blk_cell BK225.out 0).trans rfl, (blk_cell BK225.out 1).trans rfl, (blk_cell BK225.out 2).trans rfl, (blk_cell BK225.out 3).trans rfl, (blk_cell BK225.out 4).trans rfl, (blk_cell BK225.out 5).trans rfl, (blk_cell BK225.out 6).trans rfl, (blk_cell BK225.out 7).trans rfl⟩ (fun hHeld => ?_); refine with_tabW dragomanlaw11_CondOwn.tab16 dragomanlaw11_CondOwn.bits16 (fun HT_ HW_ => ?_)
           generalize w109.drew = w110 at HO235 HO238 BK224 BK225 BK226 BK243 BK244 HB hHeld ⊢
           refine take_ (i := 0) (N := some 75) (v := ?_) (a' := ?_) (tf 1 7) rfl rfl (take_ofW HT_.out HW_.out (by kernel_rfl)) (fun _ _ _ h => h) (Or.inl ⟨by rfl, ?_⟩) hHeld ?_ ?_
           rotate_left
           · rintro w' ⟨s0, s1, s2, s3, s4, s5, s6, s7, s8, s9, s10, s11, s12, s13, s14, s15, s16, s17, s18, s19, s20, s21, s22, s23, s24, s25, s26, s27⟩
             go_simp
             with_reducible rfl
           rotate_left
           · simp only [Act.put, sT, sZ, sS, i64_w, i32_w]
             rfl
           refine take_ (i := 1) (N := some 76) (v := ?_) (a' := ?_) (tf 2 6) rfl rfl (take_ofW HT_.out HW_.out (by kernel_rfl)) (fun _ _ _ h => h) (Or.inl ⟨by rfl, ?_⟩) hHeld ?_ ?_
           rotate_left
           · rintro w' ⟨s0, s1, s2, s3, s4, s5, s6, s7, s8, s9, s10, s11, s12, s13, s14, s15, s16, s17, s18, s19, s20, s21, s22, s23, s24, s25, s26, s27⟩
             go_simp
             with_reducible rfl
           rotate_left
           · simp only [Act.put, sT, sZ, sS, i64_w, i32_w]
             rfl
           refine take_ (i := 3) (N := some 78) (v := ?_) (a' := ?_) #[true, true, false, true, false, false, false, false] rfl rfl (take_ofW HT_.out HW_.out (by kernel_rfl)) (fun _ _ _ h => h) (Or.inl ⟨by rfl, ?_⟩) hHeld ?_ ?_
           rotate_left
           · rintro w' ⟨s0, s1, s2, s3, s4, s5, s6, s7, s8, s9, s10, s11, s12, s13, s14, s15, s16, s17, s18, s19, s20, s21, s22, s23, s24, s25, s26, s27⟩
             go_simp
             with_reducible rfl
           rotate_left
           · simp only [Act.put, sT, sZ, sS, i64_w, i32_w]
             rfl
           refine take_ (i := 4) (N := some 79) (v := ?_) (a' := ?_) #[true, true, false, true, true, false, false, false] rfl rfl (take_ofW HT_.out HW_.out (by kernel_rfl)) (fun _ _ _ h => h) (Or.inl ⟨by rfl, ?_⟩) hHeld ?_ ?_
           rotate_left
           · rintro w' ⟨s0, s1, s2, s3, s4, s5, s6, s7, s8, s9, s10, s11, s12, s13, s14, s15, s16, s17, s18, s19, s20, s21, s22, s23, s24, s25, s26, s27⟩
             go_simp
             with_reducible rfl
           rotate_left
           · simp only [Act.put, sT, sZ, sS, i64_w, i32_w]
             rfl
           refine one_ (i := 2) (N := some 77) (tf 5 3) rfl rfl (one_of HT_.out (by kernel_rfl)) (by decide) (fun K hK => ?_)
           refine goes_ Try.func34 (by kernel_rfl) rfl #[.agg #[.int .i64 a0_0, .slice none 0 0, .slice A0_2 l0_2.length c0_2, .slice none 0 0, .int .u32 0, .int .u32 0], .agg #[.int .u32 t231, .int .i64 t232, .slice A1_2 l1_2.length c1_2, .slice Ao111 t236.length co111, .int .u32 t239, .int .u32 t240, .int .i64 t241, .int .u32 t242]] (by rfl) rfl rfl (by (try simp only [List.map_toArray, List.map_cons, List.map_nil]); first | done | rfl | (simp only [List.length_drop, List.length_take]; rfl)) ?_
           refine (cond_Holds.calls kj5 a0_0 _ _ ([] : List (S83)) _ _ l0_2 _ _ ([] : List (S64)) 0 0 t231 t232 _ _ l1_2 _ _ t236 t239 t240 t241 t242 t247 _ ?side1 ?side2 ?side3 ?side4 ?side5 ?side6 ?side7 ?side8 ?side9 ?side10 A78.out).mono ?_
           (case side1 => exact Kd.C_nil _ _)
           (case side2 => exact Nat.le_refl _)
           (case side3 => repeat (first | exact (Kd.C_below HR0_2.out HB.out) | (with_reducible refine Kd.C_alloc ?_ _) | (with_reducible refine Kd.C_drewN ?_ _) | (with_reducible refine Kd.C_drew ?_)))
           (case side4 => exact HC0_2.out)
           (case side5 => exact Kd.C_nil _ _)
           (case side6 => exact Nat.le_refl _)
           (case side7 => repeat (first | exact (Kd.C_below HR1_2.out HB.out) | (with_reducible refine Kd.C_alloc ?_ _) | (with_reducible refine Kd.C_drewN ?_ _) | (with_reducible refine Kd.C_drew ?_)))
           (case side8 => exact HC1_2.out)
           (case side9 => repeat (first | exact (Kd.R_reads' HO238.out).2.2 | (with_reducible refine Kd.C_alloc ?_ _) | (with_reducible refine Kd.C_drewN ?_ _) | (with_reducible refine Kd.C_drew ?_)))
           (case side10 => exact (Kd.R_reads' HO238.out).2.1)
           rintro e w112 ⟨rfl, hb⟩
           refine ⟨_, rfl, ?_⟩
           have n0_ := aM (Kd.R_below (uk_ HO235.out) hb)
           have n1_ := aM (Kd.R_below (uk_ HO238.out) hb)
           have n2_ := aM (blk_below (g := gb224) (o := .cells #[.int .i64 a0_0, .slice A0_1 l0_1.length c0_1, .slice A0_2 l0_2.length c0_2, .slice A0_3 l0_3.length c0_3, .int .u32 a0_4, .int .u32 a0_5] 46 (0, 0)) (up_ BK224.out) hb)
           have n3_ := aM (blk_below (g := gb225) (o := .cells #[.int .u32 a1_0, .int .i64 a1_1, .slice A1_2 l1_2.length c1_2, .slice A1_3 l1_3.length c1_3, .int .u32 a1_4, .int .u32 a1_5, .int .i64 a1_6, .int .u32 a1_7] 50 (0, 0)) (up_ BK225.out) hb)
           have n4_ := aM (blk_below (g := gb226) (o := .cells #[.int .u32 a2_0, .int .i64 a2_1, .slice A2_2 l2_2.length c2_2, .slice A2_3 l2_3.length c2_3, .int .u32 a2_4, .int .u32 a2_5, .int .i64 a2_6, .int .u32 a2_7] 50 (0, 0)) (up_ BK226.out) hb)
           have n5_ := aM (blk_below (g := gb243) (o := .cells #[.int .i64 a0_0, .slice none 0 0, .slice A0_2 l0_2.length c0_2, .slice none 0 0, .int .u32 0, .int .u32 0] 46 (0, 0)) (up_ BK243.out) hb)
           have n6_ := aM (blk_below (g := gb244) (o := .cells #[.int .u32 t231, .int .i64 t232, .slice A1_2 l1_2.length c1_2, .slice Ao111 t236.length co111, .int .u32 t239, .int .u32 t240, .int .i64 t241, .int .u32 t242] 50 (0, 0)) (up_ BK244.out) hb)
           have n7_ := aM (below_step (bw_ HB.out) hb)
           clear HO235
           clear HO238
           clear BK224
           clear BK225
           clear BK226
           clear BK243
           clear BK244
           clear HB
           have HO235 := n0_
           have HO238 := n1_
           have BK224 := n2_
           have BK225 := n3_
           have BK226 := n4_
           have BK243 := n5_
           have BK244 := n6_
           have HB := n7_
           clear n0_ n1_ n2_ n3_ n4_ n5_ n6_ n7_
           (try clear hb)
           (try clear hb2)
           (try clear hk)
           (try clear hi)
           refine hK.out _ _ ⟨(blk_cell BK243.out 0).trans rfl, (blk_cell BK243.out 1).trans rfl, (blk_cell BK243.out 2).trans rfl, (blk_cell BK243.out 3).trans rfl, (blk_cell BK243.out 4).trans rfl, (blk_cell BK243.out 5).trans rfl, (blk_cell BK244.out 0).trans rfl, (blk_cell BK244.out 1).trans rfl, (blk_cell BK244.out 2).trans rfl, (blk_cell BK244.out 3).trans rfl, (blk_cell BK244.out 4).trans rfl, (blk_cell BK244.out 5).trans rfl, (blk_cell BK244.out 6).trans rfl, (blk_cell BK244.out 7).trans rfl, (blk_cell BK224.out 0).trans rfl, (blk_cell BK224.out 1).trans rfl, (blk_cell BK224.out 2).trans rfl, (blk_cell BK224.out 3).trans rfl, (blk_cell BK224.out 4).trans rfl, (blk_cell BK224.out 5).trans rfl, (blk_cell BK225.out 0).trans rfl, (blk_cell BK225.out 1).trans rfl, (blk_cell BK225.out 2).trans rfl, (blk_cell BK225.out 3).trans rfl, (blk_cell BK225.out 4).trans rfl, (blk_cell BK225.out 5).trans rfl, (blk_cell BK225.out 6).trans rfl, (blk_cell BK225.out 7).trans rfl⟩ (fun hHeld => ?_)
           clear hK K
           refine norm_ (a' := ?_) ?_ ?_
           rotate_left
           · show Act.put _ (some 77) _ = _
             simp only [Act.put, sT, sZ, sS, i64_w, i32_w]
             rfl
           refine one_ (i := 5) (N := some 80) (tf 6 2) rfl rfl (one_of HT_.out (by kernel_rfl)) (by decide) (fun K hK => ?_)
           refine goes_ Try.func34 (by kernel_rfl) rfl #[.agg #[.int .i64 a0_0, .slice A0_1 l0_1.length c0_1, .slice A0_2 l0_2.length c0_2, .slice A0_3 l0_3.length c0_3, .int .u32 a0_4, .int .u32 a0_5], .agg #[.int .u32 a1_0, .int .i64 a1_1, .slice A1_2 l1_2.length c1_2, .slice A1_3 l1_3.length c1_3, .int .u32 a1_4, .int .u32 a1_5, .int .i64 a1_6, .int .u32 a1_7]] (by rfl) rfl rfl (by (try simp only [List.map_toArray, List.map_cons, List.map_nil]); first | done | rfl | (simp only [List.length_drop, List.length_take]; rfl)) ?_
           with_reducible refine (cond_Holds.calls kj5 a0_0 _ _ l0_1 _ _ l0_2 _ _ l0_3 a0_4 a0_5 a1_0 a1_1 _ _ l1_2 _ _ l1_3 a1_4 a1_5 a1_6 a1_7 t248 _ ?side1 ?side2 ?side3 ?side4 ?side5 ?side6 ?side7 ?side8 ?side9 ?side10 A79.out).mono ?_
           (case side1 => repeat (first | exact (Kd.C_below HR0_1.out HB.out) | (with_reducible refine Kd.C_alloc ?_ _) | (with_reducible refine Kd.C_drewN ?_ _) | (with_reducible refine Kd.C_drew ?_)))
           (case side2 => exact HC0_1.out)
           (case side3 => repeat (first | exact (Kd.C_below HR0_2.out HB.out) | (with_reducible refine Kd.C_alloc ?_ _) | (with_reducible refine Kd.C_drewN ?_ _) | (with_reducible refine Kd.C_drew ?_)))
           (case side4 => exact HC0_2.out)
           (case side5 => repeat (first | exact (Kd.C_below HR0_3.out HB.out) | (with_reducible refine Kd.C_alloc ?_ _) | (with_reducible refine Kd.C_drewN ?_ _) | (with_reducible refine Kd.C_drew ?_)))
           (case side6 => exact HC0_3.out)
           (case side7 => repeat (first | exact (Kd.C_below HR1_2.out HB.out) | (with_reducible refine Kd.C_alloc ?_ _) | (with_reducible refine Kd.C_drewN ?_ _) | (with_reducible refine Kd.C_drew ?_)))
           (case side8 => exact HC1_2.out)
           (case side9 => repeat (first | exact (Kd.C_below HR1_3.out HB.out) | (with_reducible refine Kd.C_alloc ?_ _) | (with_reducible refine Kd.C_drewN ?_ _) | (with_reducible refine Kd.C_drew ?_)))
           (case side10 => exact HC1_3.out)
           rintro e w113 ⟨rfl, hb⟩
           refine ⟨_, rfl, ?_⟩
           have n0_ := aM (Kd.R_below (uk_ HO235.out) hb)
           have n1_ := aM (Kd.R_below (uk_ HO238.out) hb)
           have n2_ := aM (blk_below (g := gb224) (o := .cells #[.int .i64 a0_0, .slice A0_1 l0_1.length c0_1, .slice A0_2 l0_2.length c0_2, .slice A0_3 l0_3.length c0_3, .int .u32 a0_4, .int .u32 a0_5] 46 (0, 0)) (up_ BK224.out) hb)
           have n3_ := aM (blk_below (g := gb225) (o := .cells #[.int .u32 a1_0, .int .i64 a1_1, .slice A1_2 l1_2.length c1_2, .slice A1_3 l1_3.length c1_3, .int .u32 a1_4, .int .u32 a1_5, .int .i64 a1_6, .int .u32 a1_7] 50 (0, 0)) (up_ BK225.out) hb)
           have n4_ := aM (blk_below (g := gb226) (o := .cells #[.int .u32 a2_0, .int .i64 a2_1, .slice A2_2 l2_2.length c2_2, .slice A2_3 l2_3.length c2_3, .int .u32 a2_4, .int .u32 a2_5, .int .i64 a2_6, .int .u32 a2_7] 50 (0, 0)) (up_ BK226.out) hb)
           have n5_ := aM (blk_below (g := gb243) (o := .cells #[.int .i64 a0_0, .slice none 0 0, .slice A0_2 l0_2.length c0_2, .slice none 0 0, .int .u32 0, .int .u32 0] 46 (0, 0)) (up_ BK243.out) hb)
           have n6_ := aM (blk_below (g := gb244) (o := .cells #[.int .u32 t231, .int .i64 t232, .slice A1_2 l1_2.length c1_2, .slice Ao111 t236.length co111, .int .u32 t239, .int .u32 t240, .int .i64 t241, .int .u32 t242] 50 (0, 0)) (up_ BK244.out) hb)
           have n7_ := aM (below_step (bw_ HB.out) hb)
           clear HO235
           clear HO238
           clear BK224
           clear BK225
           clear BK226
           clear BK243
           clear BK244
           clear HB
           have HO235 := n0_
           have HO238 := n1_
           have BK224 := n2_
           have BK225 := n3_
           have BK226 := n4_
           have BK243 := n5_
           have BK244 := n6_
           have HB := n7_
           clear n0_ n1_ n2_ n3_ n4_ n5_ n6_ n7_
           (try clear hb)
           (try clear hb2)
           (try clear hk)
           (try clear hi)
           refine hK.out _ _ ⟨(blk_cell BK243.out 0).trans rfl, (blk_cell BK243.out 1).trans rfl, (blk_cell BK243.out 2).trans rfl, (blk_cell BK243.out 3).trans rfl, (blk_cell BK243.out 4).trans rfl, (blk_cell BK243.out 5).trans rfl, (blk_cell BK244.out 0).trans rfl, (blk_cell BK244.out 1).trans rfl, (blk_cell BK244.out 2).trans rfl, (blk_cell BK244.out 3).trans rfl, (blk_cell BK244.out 4).trans rfl, (blk_cell BK244.out 5).trans rfl, (blk_cell BK244.out 6).trans rfl, (blk_cell BK244.out 7).trans rfl, (blk_cell BK224.out 0).trans rfl, (blk_cell BK224.out 1).trans rfl, (blk_cell BK224.out 2).trans rfl, (blk_cell BK224.out 3).trans rfl, (blk_cell BK224.out 4).trans rfl, (blk_cell BK224.out 5).trans rfl, (blk_cell BK225.out 0).trans rfl, (blk_cell BK225.out 1).trans rfl, (blk_cell BK225.out 2).trans rfl, (blk_cell BK225.out 3).trans rfl, (blk_cell BK225.out 4).trans rfl, (blk_cell BK225.out 5).trans rfl, (blk_cell BK225.out 6).trans rfl, (blk_cell BK225.out 7).trans rfl⟩ (fun hHeld => ?_)
           clear hK K
           refine norm_ (a' := ?_) ?_ ?_
           rotate_left
           · show Act.put _ (some 80) _ = _
             simp only [Act.put, sT, sZ, sS, i64_w, i32_w]
             rfl
           refine pure_ (i := 6) (N := some 81) (v := ?_) (a' := ?_) (tf 7 1) rfl rfl (any_of HT_.out (by kernel_rfl)) (fun _ _ _ h => h) (Or.inl ⟨by rfl, ?_⟩) ?_ ?_
           rotate_left
           · intro w'
             go_simp
             with_reducible rfl
           rotate_left
           · simp only [Act.put, sT, sZ, sS, i64_w, i32_w]
             rfl
           refine pure_ (i := 7) (N := some 6) (v := ?_) (a' := ?_) (tf 8 0) rfl rfl (any_of HT_.out (by kernel_rfl)) (fun _ _ _ h => h) (Or.inl ⟨by rfl, ?_⟩) ?_ ?_
           rotate_left
           · intro w'
             go_simp
             with_reducible rfl
           rotate_left
           · simp only [Act.put, sT, sZ, sS, i64_w, i32_w]
             rfl
           refine done_ (done_of HT_.out (by kernel_rfl)) ?_
           try go_wp2
           first | go_ret | refine ⟨_, results_tmp rfl _ _ _, ?_⟩
           exact ⟨by first | rfl | (simp [errW_none, errW_some] <;> rfl) | (simp [*, errW_none, errW_some] <;> rfl), by repeat (first | (with_reducible first | exact HB.out | apply blA | apply blN | apply blD | refine bS ?_ GE224.out | refine bS ?_ GE225.out | refine bS ?_ GE226.out | refine bS ?_ GE243.out | refine bS ?_ GE244.out) | exact HB.out)⟩
         · rw [if_neg c77] at H
           have c77b0 : (a0_0 == 2) = false := beq_eq_false_iff_ne.mpr c77
           have c77b1 : (a0_0 != 2) = true := bne_iff_ne.mpr c77
           by_cases c114 : a0_0 = 3
           · rw [if_pos c114] at H
             have c114b0 : (a0_0 == 3) = true := beq_iff_eq.mpr c114
             have c114b1 : (a0_0 != 3) = false := bne_eq_false_iff_eq.mpr c114
             clear c114
             replace H := Option.bind_eq_some_iff.mp H
             obtain ⟨t249, A1150, H⟩ := H
             replace H : ((cond_Holds.f kj5 a0_0 l0_1 l0_2 l0_3 a0_4 a0_5 a1_0 a1_1 l1_2 l1_3 a1_4 a1_5 a1_6 a1_7).bind fun t250 => (some (t249 == t250))) = some r := H
             have A115 := aM A1150
             clear A1150
             replace H := Option.bind_eq_some_iff.mp H
             obtain ⟨t250, A1160, H⟩ := H
             replace H : (some (t249 == t250)) = some r := H
             have A116 := aM A1160
             clear A1160
             obtain rfl := Option.some.inj H
             have hnb138 := NB224_225.out
             have hnc138 := NB225_224.out
             have hnb139 := NB224_226.out
             have hnc139 := NB226_224.out
             have hnb140 := NB224_243.out
             have hnc140 := NB243_224.out
             have hnb141 := NB224_244.out
             have hnc141 := NB244_224.out
             have hcz142_0 : w61.cell? ⟨gb224, 0, none⟩ = some (.int .i64 a0_0) := (blk_cell BK224.out 0).trans rfl
             have hcz142_1 : w61.cell? ⟨gb224, 1, none⟩ = some (.slice A0_1 l0_1.length c0_1) := (blk_cell BK224.out 1).trans rfl
             have hcz142_2 : w61.cell? ⟨gb224, 2, none⟩ = some (.slice A0_2 l0_2.length c0_2) := (blk_cell BK224.out 2).trans rfl
             have hcz142_3 : w61.cell? ⟨gb224, 3, none⟩ = some (.slice A0_3 l0_3.length c0_3) := (blk_cell BK224.out 3).trans rfl
             have hcz142_4 : w61.cell? ⟨gb224, 4, none⟩ = some (.int .u32 a0_4) := (blk_cell BK224.out 4).trans rfl
             have hcz142_5 : w61.cell? ⟨gb224, 5, none⟩ = some (.int .u32 a0_5) := (blk_cell BK224.out 5).trans rfl
             have hfz142_0 := bF BK224.out 0
             have hfz142_1 := bF BK224.out 1
             have hfz142_2 := bF BK224.out 2
             have hfz142_3 := bF BK224.out 3
             have hfz142_4 := bF BK224.out 4
             have hfz142_5 := bF BK224.out 5
             try go_wp2
             have n0_ := aM (Kd.R_drew HO235.out)
             have n1_ := aM (Kd.R_drew HO238.out)
             have n2_ := aM (blk_drew BK224.out)
             have n3_ := aM (blk_drew BK225.out)
             have n4_ := aM (blk_drew BK226.out)
             have n5_ := aM (blk_drew BK243.out)
             have n6_ := aM (blk_drew BK244.out)
             have n7_ := aM (below_drew1 HB.out)
             clear HO235
             clear HO238
             clear BK224
             clear BK225
             clear BK226
             clear BK243
             clear BK244
             clear HB
             have HO235 := n0_
             have HO238 := n1_
             have BK224 := n2_
             have BK225 := n3_
             have BK226 := n4_
             have BK243 := n5_
             have BK244 := n6_
             have HB := n7_
             clear n0_ n1_ n2_ n3_ n4_ n5_ n6_ n7_
             refine start_ (n := 8) (S := fun w' => w'.cell? ⟨gb224, 0, none⟩ = some (.int .i64 a0_0) ∧ w'.cell? ⟨gb224, 1, none⟩ = some (.slice A0_1 l0_1.length c0_1) ∧ w'.cell? ⟨gb224, 2, none⟩ = some (.slice A0_2 l0_2.length c0_2) ∧ w'.cell? ⟨gb224, 3, none⟩ = some (.slice A0_3 l0_3.length c0_3) ∧ w'.cell? ⟨gb224, 4, none⟩ = some (.int .u32 a0_4) ∧ w'.cell? ⟨gb224, 5, none⟩ = some (.int .u32 a0_5) ∧ w'.cell? ⟨gb225, 0, none⟩ = some (.int .u32 a1_0) ∧ w'.cell? ⟨gb225, 1, none⟩ = some (.int .i64 a1_1) ∧ w'.cell? ⟨gb225, 2, none⟩ = some (.slice A1_2 l1_2.length c1_2) ∧ w'.cell? ⟨gb225, 3, none⟩ = some (.slice A1_3 l1_3.length c1_3) ∧ w'.cell? ⟨gb225, 4, none⟩ = some (.int .u32 a1_4) ∧ w'.cell? ⟨gb225, 5, none⟩ = some (.int .u32 a1_5) ∧ w'.cell? ⟨gb225, 6, none⟩ = some (.int .i64 a1_6) ∧ w'.cell? ⟨gb225, 7, none⟩ = some (.int .u32 a1_7)) (ds := []) (tf 0 8) (by kernel_rfl) rfl rfl ⟨(blk_cell BK224.out 0).trans rfl, (blk_cell BK224.out 1).trans rfl, (blk_cell BK224.out 2).trans rfl, (blk_cell BK224.out 3).trans rfl, (blk_cell BK224.out 4).trans rfl, (blk_cell BK224.out 5).trans rfl, (blk_cell BK225.out 0).trans rfl, (blk_cell BK225.out 1).trans rfl, (blk_cell BK225.out 2).trans rfl, (blk_cell BK225.out 3).trans rfl, (blk_cell BK225.out 4).trans rfl, (blk_cell BK225.out 5).trans rfl, (blk_cell BK225.out 6).trans rfl, (blk_cell BK225.out 7).trans rfl⟩ (fun hHeld => ?_); refine with_tabW dragomanlaw11_CondOwn.tab13 dragomanlaw11_CondOwn.bits13 (fun HT_ HW_ => ?_)
             generalize w61.drew = w143 at HO235 HO238 BK224 BK225 BK226 BK243 BK244 HB hHeld ⊢
             refine pure_ (i := 0) (N := some 61) (v := ?_) (a' := ?_) (tf 1 7) rfl rfl (any_of HT_.out (by kernel_rfl)) (fun _ _ _ h => h) (Or.inl ⟨by rfl, ?_⟩) ?_ ?_
             rotate_left
             · intro w'
               go_simp
               with_reducible rfl
             rotate_left
             · simp only [Act.put, sT, sZ, sS, i64_w, i32_w]
               rfl
             refine pure_ (i := 2) (N := some 63) (v := ?_) (a' := ?_) #[true, false, true, false, false, false, false, false] rfl rfl (any_of HT_.out (by kernel_rfl)) (fun _ _ _ h => h) (Or.inl ⟨by rfl, ?_⟩) ?_ ?_
             rotate_left
             · intro w'
               go_simp
               with_reducible rfl
             rotate_left
             · simp only [Act.put, sT, sZ, sS, i64_w, i32_w]
               rfl
             refine take_ (i := 1) (N := some 62) (v := ?_) (a' := ?_) (tf 3 5) rfl rfl (take_ofW HT_.out HW_.out (by kernel_rfl)) (fun _ _ _ h => h) (Or.inl ⟨by rfl, ?_⟩) hHeld ?_ ?_
             rotate_left
             · rintro w' ⟨s0, s1, s2, s3, s4, s5, s6, s7, s8, s9, s10, s11, s12, s13⟩
               go_simp
               with_reducible rfl
             rotate_left
             · simp only [Act.put, sT, sZ, sS, i64_w, i32_w]
               rfl
             refine pure_ (i := 4) (N := some 65) (v := ?_) (a' := ?_) #[true, true, true, false, true, false, false, false] rfl rfl (any_of HT_.out (by kernel_rfl)) (fun _ _ _ h => h) (Or.inl ⟨by rfl, ?_⟩) ?_ ?_
             rotate_left
             · intro w'
               go_simp
               with_reducible rfl
             rotate_left
             · simp only [Act.put, sT, sZ, sS, i64_w, i32_w]
               rfl
             refine take_ (i := 3) (N := some 64) (v := ?_) (a' := ?_) (tf 5 3) rfl rfl (take_ofW HT_.out HW_.out (by kernel_rfl)) (fun _ _ _ h => h) (Or.inl ⟨by rfl, ?_⟩) hHeld ?_ ?_
             rotate_left
             · rintro w' ⟨s0, s1, s2, s3, s4, s5, s6, s7, s8, s9, s10, s11, s12, s13⟩
               go_simp
               with_reducible rfl
             rotate_left
             · simp only [Act.put, sT, sZ, sS, i64_w, i32_w]
               rfl
             refine one_ (i := 5) (N := none) (tf 6 2) rfl rfl (one_of HT_.out (by kernel_rfl)) (by decide) (fun K hK => ?_)
             have hs144 : w143.cell? ⟨gb243, 3, none⟩ = some (.slice none 0 0) := (blk_cell BK243.out 3).trans rfl
             have hfs144 := bF BK243.out 3
             have hns144_0 := NB224_243.out
             have hns144_1 := NB225_243.out
             have hns144_2 := NB226_243.out
             have hns144_4 := NB244_243.out
             have hms144_0 := NB243_224.out
             have hms144_1 := NB243_225.out
             have hms144_2 := NB243_226.out
             have hms144_4 := NB243_244.out
             refine skip_ (w1 := ?_) (by rfl) rfl ?_ ?_
             rotate_left
             · go_simp
               rfl
             refine hK.out _ _ ⟨((cell_far (p := ⟨gb243, _, none⟩) NB224_243.out _).trans (hHeld.1)), ((cell_far (p := ⟨gb243, _, none⟩) NB224_243.out _).trans (hHeld.2.1)), ((cell_far (p := ⟨gb243, _, none⟩) NB224_243.out _).trans (hHeld.2.2.1)), ((cell_far (p := ⟨gb243, _, none⟩) NB224_243.out _).trans (hHeld.2.2.2.1)), ((cell_far (p := ⟨gb243, _, none⟩) NB224_243.out _).trans (hHeld.2.2.2.2.1)), ((cell_far (p := ⟨gb243, _, none⟩) NB224_243.out _).trans (hHeld.2.2.2.2.2.1)), ((cell_far (p := ⟨gb243, _, none⟩) NB225_243.out _).trans (hHeld.2.2.2.2.2.2.1)), ((cell_far (p := ⟨gb243, _, none⟩) NB225_243.out _).trans (hHeld.2.2.2.2.2.2.2.1)), ((cell_far (p := ⟨gb243, _, none⟩) NB225_243.out _).trans (hHeld.2.2.2.2.2.2.2.2.1)), ((cell_far (p := ⟨gb243, _, none⟩) NB225_243.out _).trans (hHeld.2.2.2.2.2.2.2.2.2.1)), ((cell_far (p := ⟨gb243, _, none⟩) NB225_243.out _).trans (hHeld.2.2.2.2.2.2.2.2.2.2.1)), ((cell_far (p := ⟨gb243, _, none⟩) NB225_243.out _).trans (hHeld.2.2.2.2.2.2.2.2.2.2.2.1)), ((cell_far (p := ⟨gb243, _, none⟩) NB225_243.out _).trans (hHeld.2.2.2.2.2.2.2.2.2.2.2.2.1)), ((cell_far (p := ⟨gb243, _, none⟩) NB225_243.out _).trans (hHeld.2.2.2.2.2.2.2.2.2.2.2.2.2))⟩ (fun hHeld => ?_)
             clear hK K
             refine pure_ (i := 6) (N := some 66) (v := ?_) (a' := ?_) (tf 7 1) rfl rfl (any_of HT_.out (by kernel_rfl)) (fun _ _ _ h => h) (Or.inl ⟨by rfl, ?_⟩) ?_ ?_
             rotate_left
             · intro w'
               go_simp
               with_reducible rfl
             rotate_left
             · simp only [Act.put, sT, sZ, sS, i64_w, i32_w]
               rfl
             refine one_ (i := 7) (N := none) (tf 8 0) rfl rfl (one_of HT_.out (by kernel_rfl)) (by decide) (fun K hK => ?_)
             have hs145 : w143.cell? ⟨gb244, 3, none⟩ = some (v237) := (blk_cell BK244.out 3).trans rfl
             have hfs145 := bF BK244.out 3
             have hns145_0 := NB224_244.out
             have hns145_1 := NB225_244.out
             have hns145_2 := NB226_244.out
             have hns145_3 := NB243_244.out
             have hms145_0 := NB244_224.out
             have hms145_1 := NB244_225.out
             have hms145_2 := NB244_226.out
             have hms145_3 := NB244_243.out
             refine skip_ (w1 := ?_) (by rfl) rfl ?_ ?_
             rotate_left
             · go_simp
               rfl
             refine hK.out _ _ ⟨((cell_far (p := ⟨gb244, _, none⟩) NB224_244.out _).trans (hHeld.1)), ((cell_far (p := ⟨gb244, _, none⟩) NB224_244.out _).trans (hHeld.2.1)), ((cell_far (p := ⟨gb244, _, none⟩) NB224_244.out _).trans (hHeld.2.2.1)), ((cell_far (p := ⟨gb244, _, none⟩) NB224_244.out _).trans (hHeld.2.2.2.1)), ((cell_far (p := ⟨gb244, _, none⟩) NB224_244.out _).trans (hHeld.2.2.2.2.1)), ((cell_far (p := ⟨gb244, _, none⟩) NB224_244.out _).trans (hHeld.2.2.2.2.2.1)), ((cell_far (p := ⟨gb244, _, none⟩) NB225_244.out _).trans (hHeld.2.2.2.2.2.2.1)), ((cell_far (p := ⟨gb244, _, none⟩) NB225_244.out _).trans (hHeld.2.2.2.2.2.2.2.1)), ((cell_far (p := ⟨gb244, _, none⟩) NB225_244.out _).trans (hHeld.2.2.2.2.2.2.2.2.1)), ((cell_far (p := ⟨gb244, _, none⟩) NB225_244.out _).trans (hHeld.2.2.2.2.2.2.2.2.2.1)), ((cell_far (p := ⟨gb244, _, none⟩) NB225_244.out _).trans (hHeld.2.2.2.2.2.2.2.2.2.2.1)), ((cell_far (p := ⟨gb244, _, none⟩) NB225_244.out _).trans (hHeld.2.2.2.2.2.2.2.2.2.2.2.1)), ((cell_far (p := ⟨gb244, _, none⟩) NB225_244.out _).trans (hHeld.2.2.2.2.2.2.2.2.2.2.2.2.1)), ((cell_far (p := ⟨gb244, _, none⟩) NB225_244.out _).trans (hHeld.2.2.2.2.2.2.2.2.2.2.2.2.2))⟩ (fun hHeld => ?_)
             clear hK K
             refine done_ (done_of HT_.out (by kernel_rfl)) ?_
             try go_wp2
             have n0_ : Aside0 (Kd.R (Kd.int .u32) 36 ((w143.setCell ⟨gb243, 3, none⟩ (.slice A0_3 l0_3.length c0_3)).setCell ⟨gb244, 3, none⟩ (.slice A1_3 l1_3.length c1_3)) w.heap.size (fun k_ => some k_ ≠ (v237 : Value).ownBlock) v234 t233) := ⟨by (with_reducible repeat (first | apply kA | apply kN | apply kD)); exact Kd.R_mono (Kd.R_far (p := ⟨gb244, 3, none⟩) (Kd.R_far (p := ⟨gb243, 3, none⟩) (Kd.R_types (Kd.R_types HO235.out BK243.out (by decide)) BK244.out (by decide)) (fun _ hk => hk.1.2) (.slice A0_3 l0_3.length c0_3)) (fun _ hk => hk.2) (.slice A1_3 l1_3.length c1_3)) (fun _ hk => hk.1.1)⟩
             have n1_ : Aside0 (Kd.R (Kd.int .u32) 36 ((w143.setCell ⟨gb243, 3, none⟩ (.slice A0_3 l0_3.length c0_3)).setCell ⟨gb244, 3, none⟩ (.slice A1_3 l1_3.length c1_3)) w.heap.size (fun k_ => some k_ ≠ (v234 : Value).ownBlock) v237 t236) := ⟨by (with_reducible repeat (first | apply kA | apply kN | apply kD)); exact Kd.R_mono (Kd.R_far (p := ⟨gb244, 3, none⟩) (Kd.R_far (p := ⟨gb243, 3, none⟩) (Kd.R_types (Kd.R_types HO238.out BK243.out (by decide)) BK244.out (by decide)) (fun _ hk => hk.1.2) (.slice A0_3 l0_3.length c0_3)) (fun _ hk => hk.2) (.slice A1_3 l1_3.length c1_3)) (fun _ hk => hk.1.1)⟩
             have n2_ : Aside0 (((w143.setCell ⟨gb243, 3, none⟩ (.slice A0_3 l0_3.length c0_3)).setCell ⟨gb244, 3, none⟩ (.slice A1_3 l1_3.length c1_3)).heap[gb224]? = some (.cells #[.int .i64 a0_0, .slice A0_1 l0_1.length c0_1, .slice A0_2 l0_2.length c0_2, .slice A0_3 l0_3.length c0_3, .int .u32 a0_4, .int .u32 a0_5] 46 (0, 0))) := ⟨by (with_reducible repeat (first | apply bkN | apply bkD | apply bkA)); refine blk_far ?_ NB224_244.out _; (with_reducible repeat (first | apply bkN | apply bkD | apply bkA)); refine blk_far ?_ NB224_243.out _; (with_reducible repeat (first | apply bkN | apply bkD | apply bkA)); exact BK224.out⟩
             have n3_ : Aside0 (((w143.setCell ⟨gb243, 3, none⟩ (.slice A0_3 l0_3.length c0_3)).setCell ⟨gb244, 3, none⟩ (.slice A1_3 l1_3.length c1_3)).heap[gb225]? = some (.cells #[.int .u32 a1_0, .int .i64 a1_1, .slice A1_2 l1_2.length c1_2, .slice A1_3 l1_3.length c1_3, .int .u32 a1_4, .int .u32 a1_5, .int .i64 a1_6, .int .u32 a1_7] 50 (0, 0))) := ⟨by (with_reducible repeat (first | apply bkN | apply bkD | apply bkA)); refine blk_far ?_ NB225_244.out _; (with_reducible repeat (first | apply bkN | apply bkD | apply bkA)); refine blk_far ?_ NB225_243.out _; (with_reducible repeat (first | apply bkN | apply bkD | apply bkA)); exact BK225.out⟩
             have n4_ : Aside0 (((w143.setCell ⟨gb243, 3, none⟩ (.slice A0_3 l0_3.length c0_3)).setCell ⟨gb244, 3, none⟩ (.slice A1_3 l1_3.length c1_3)).heap[gb226]? = some (.cells #[.int .u32 a2_0, .int .i64 a2_1, .slice A2_2 l2_2.length c2_2, .slice A2_3 l2_3.length c2_3, .int .u32 a2_4, .int .u32 a2_5, .int .i64 a2_6, .int .u32 a2_7] 50 (0, 0))) := ⟨by (with_reducible repeat (first | apply bkN | apply bkD | apply bkA)); refine blk_far ?_ NB226_244.out _; (with_reducible repeat (first | apply bkN | apply bkD | apply bkA)); refine blk_far ?_ NB226_243.out _; (with_reducible repeat (first | apply bkN | apply bkD | apply bkA)); exact BK226.out⟩
             have n5_ : Aside0 (((w143.setCell ⟨gb243, 3, none⟩ (.slice A0_3 l0_3.length c0_3)).setCell ⟨gb244, 3, none⟩ (.slice A1_3 l1_3.length c1_3)).heap[gb243]? = some (.cells #[.int .i64 a0_0, .slice none 0 0, .slice none 0 0, .slice A0_3 l0_3.length c0_3, .int .u32 0, .int .u32 0] 46 (0, 0))) := ⟨by (with_reducible repeat (first | apply bkN | apply bkD | apply bkA)); refine blk_far ?_ NB243_244.out _; (with_reducible repeat (first | apply bkN | apply bkD | apply bkA)); refine blk_put (cs := #[.int .i64 a0_0, .slice none 0 0, .slice none 0 0, .slice none 0 0, .int .u32 0, .int .u32 0]) ?_ 3 _ rfl; (with_reducible repeat (first | apply bkN | apply bkD | apply bkA)); exact BK243.out⟩
             have n6_ : Aside0 (((w143.setCell ⟨gb243, 3, none⟩ (.slice A0_3 l0_3.length c0_3)).setCell ⟨gb244, 3, none⟩ (.slice A1_3 l1_3.length c1_3)).heap[gb244]? = some (.cells #[.int .u32 t231, .int .i64 t232, v234, .slice A1_3 l1_3.length c1_3, .int .u32 t239, .int .u32 t240, .int .i64 t241, .int .u32 t242] 50 (0, 0))) := ⟨by (with_reducible repeat (first | apply bkN | apply bkD | apply bkA)); refine blk_put (cs := #[.int .u32 t231, .int .i64 t232, v234, v237, .int .u32 t239, .int .u32 t240, .int .i64 t241, .int .u32 t242]) ?_ 3 _ rfl; (with_reducible repeat (first | apply bkN | apply bkD | apply bkA)); refine blk_far ?_ NB244_243.out _; (with_reducible repeat (first | apply bkN | apply bkD | apply bkA)); exact BK244.out⟩
             have n7_ : Aside0 (Below w.heap.size w ((w143.setCell ⟨gb243, 3, none⟩ (.slice A0_3 l0_3.length c0_3)).setCell ⟨gb244, 3, none⟩ (.slice A1_3 l1_3.length c1_3))) := ⟨by repeat (first | (with_reducible first | exact HB.out | apply blA | apply blN | apply blD | refine bS ?_ GE224.out | refine bS ?_ GE225.out | refine bS ?_ GE226.out | refine bS ?_ GE243.out | refine bS ?_ GE244.out) | exact HB.out)⟩
             (try clear HO235)
             (try clear HO238)
             (try clear BK224)
             (try clear BK225)
             (try clear BK226)
             (try clear BK243)
             (try clear BK244)
             (try clear HB)
             generalize ((w143.setCell ⟨gb243, 3, none⟩ (.slice A0_3 l0_3.length c0_3)).setCell ⟨gb244, 3, none⟩ (.slice A1_3 l1_3.length c1_3)) = w146 at n0_ n1_ n2_ n3_ n4_ n5_ n6_ n7_ ⊢
             have HO235 := n0_
             have HO238 := n1_
             have BK224 := n2_
             have BK225 := n3_
             have BK226 := n4_
             have BK243 := n5_
             have BK244 := n6_
             have HB := n7_
             clear n0_ n1_ n2_ n3_ n4_ n5_ n6_ n7_
             have n0_ := aM (Kd.R_drew HO235.out)
             have n1_ := aM (Kd.R_drew HO238.out)
             have n2_ := aM (blk_drew BK224.out)
             have n3_ := aM (blk_drew BK225.out)
             have n4_ := aM (blk_drew BK226.out)
             have n5_ := aM (blk_drew BK243.out)
             have n6_ := aM (blk_drew BK244.out)
             have n7_ := aM (below_drew1 HB.out)
             clear HO235
             clear HO238
             clear BK224
             clear BK225
             clear BK226
             clear BK243
             clear BK244
             clear HB
             have HO235 := n0_
             have HO238 := n1_
             have BK224 := n2_
             have BK225 := n3_
             have BK226 := n4_
             have BK243 := n5_
             have BK244 := n6_
             have HB := n7_
             clear n0_ n1_ n2_ n3_ n4_ n5_ n6_ n7_
             obtain ⟨Ao148, co148, eo148⟩ := Kd.R_slice HO235.out
             (first | subst eo148 | (injection eo148 with f1_ f2_ f3_; have f4_ := f1_.symm; have f5_ := f3_.symm; clear f1_ f2_ f3_; subst f4_; subst f5_))
             refine start_ (n := 8) (S := fun w' => w'.cell? ⟨gb243, 0, none⟩ = some (.int .i64 a0_0) ∧ w'.cell? ⟨gb243, 1, none⟩ = some (.slice none 0 0) ∧ w'.cell? ⟨gb243, 2, none⟩ = some (.slice none 0 0) ∧ w'.cell? ⟨gb243, 3, none⟩ = some (.slice A0_3 l0_3.length c0_3) ∧ w'.cell? ⟨gb243, 4, none⟩ = some (.int .u32 0) ∧ w'.cell? ⟨gb243, 5, none⟩ = some (.int .u32 0) ∧ w'.cell? ⟨gb244, 0, none⟩ = some (.int .u32 t231) ∧ w'.cell? ⟨gb244, 1, none⟩ = some (.int .i64 t232) ∧ w'.cell? ⟨gb244, 2, none⟩ = some (.slice Ao148 t233.length co148) ∧ w'.cell? ⟨gb244, 3, none⟩ = some (.slice A1_3 l1_3.length c1_3) ∧ w'.cell? ⟨gb244, 4, none⟩ = some (.int .u32 t239) ∧ w'.cell? ⟨gb244, 5, none⟩ = some (.int .u32 t240) ∧ w'.cell? ⟨gb244, 6, none⟩ = some (.int .i64 t241) ∧ w'.cell? ⟨gb244, 7, none⟩ = some (.int .u32 t242) ∧ w'.cell? ⟨gb224, 0, none⟩ = some (.int .i64 a0_0) ∧ w'.cell? ⟨gb224, 1, none⟩ = some (.slice A0_1 l0_1.length c0_1) ∧ w'.cell? ⟨gb224, 2, none⟩ = some (.slice A0_2 l0_2.length c0_2) ∧ w'.cell? ⟨gb224, 3, none⟩ = some (.slice A0_3 l0_3.length c0_3) ∧ w'.cell? ⟨gb224, 4, none⟩ = some (.int .u32 a0_4) ∧ w'.cell? ⟨gb224, 5, none⟩ = some (.int .u32 a0_5) ∧ w'.cell? ⟨gb225, 0, none⟩ = some (.int .u32 a1_0) ∧ w'.cell? ⟨gb225, 1, none⟩ = some (.int .i64 a1_1) ∧ w'.cell? ⟨gb225, 2, none⟩ = some (.slice A1_2 l1_2.length c1_2) ∧ w'.cell? ⟨gb225, 3, none⟩ = some (.slice A1_3 l1_3.length c1_3) ∧ w'.cell? ⟨gb225, 4, none⟩ = some (.int .u32 a1_4) ∧ w'.cell? ⟨gb225, 5, none⟩ = some (.int .u32 a1_5) ∧ w'.cell? ⟨gb225, 6, none⟩ = some (.int .i64 a1_6) ∧ w'.cell? ⟨gb225, 7, none⟩ = some (.int .u32 a1_7)) (ds := []) (tf 0 8) (by kernel_rfl) rfl rfl ⟨(blk_cell BK243.out 0).trans rfl, (blk_cell BK243.out 1).trans rfl, (blk_cell BK243.out 2).trans rfl, (blk_cell BK243.out 3).trans rfl, (blk_cell BK243.out 4).trans rfl, (blk_cell BK243.out 5).trans rfl, (blk_cell BK244.out 0).trans rfl, (blk_cell BK244.out 1).trans rfl, (blk_cell BK244.out 2).trans rfl, (blk_cell BK244.out 3).trans rfl, (blk_cell BK244.out 4).trans rfl, (blk_cell BK244.out 5).trans rfl, (blk_cell BK244.out 6).trans rfl, (blk_cell BK244.out 7).trans rfl, (blk_cell BK224.out 0).trans rfl, (blk_cell BK224.out 1).trans rfl, (blk_cell BK224.out 2).trans rfl, (blk_cell BK224.out 3).trans rfl, (blk_cell BK224.out 4).trans rfl, (blk_cell BK224.out 5).trans rfl, (blk_cell BK225.out 0).trans rfl, (blk_cell BK225.out 1).trans rfl, (blk_cell BK225.out 2).trans rfl, (blk_cell BK225.out 3).trans rfl, (blk_cell BK225.out 4).trans rfl, (blk_cell BK225.out 5).trans rfl, (blk_cell BK225.out 6).trans rfl, (blk_cell BK225.out 7).trans rfl⟩ (fun hHeld => ?_); refine with_tabW dragomanlaw11_CondOwn.tab16 dragomanlaw11_CondOwn.bits16 (fun HT_ HW_ => ?_)
             generalize w146.drew = w147 at HO235 HO238 BK224 BK225 BK226 BK243 BK244 HB hHeld ⊢
             refine take_ (i := 0) (N := some 75) (v := ?_) (a' := ?_) (tf 1 7) rfl rfl (take_ofW HT_.out HW_.out (by kernel_rfl)) (fun _ _ _ h => h) (Or.inl ⟨by rfl, ?_⟩) hHeld ?_ ?_
             rotate_left
             · rintro w' ⟨s0, s1, s2, s3, s4, s5, s6, s7, s8, s9, s10, s11, s12, s13, s14, s15, s16, s17, s18, s19, s20, s21, s22, s23, s24, s25, s26, s27⟩
               go_simp
               with_reducible rfl
             rotate_left
             · simp only [Act.put, sT, sZ, sS, i64_w, i32_w]
               rfl
             refine take_ (i := 1) (N := some 76) (v := ?_) (a' := ?_) (tf 2 6) rfl rfl (take_ofW HT_.out HW_.out (by kernel_rfl)) (fun _ _ _ h => h) (Or.inl ⟨by rfl, ?_⟩) hHeld ?_ ?_
             rotate_left
             · rintro w' ⟨s0, s1, s2, s3, s4, s5, s6, s7, s8, s9, s10, s11, s12, s13, s14, s15, s16, s17, s18, s19, s20, s21, s22, s23, s24, s25, s26, s27⟩
               go_simp
               with_reducible rfl
             rotate_left
             · simp only [Act.put, sT, sZ, sS, i64_w, i32_w]
               rfl
             refine take_ (i := 3) (N := some 78) (v := ?_) (a' := ?_) #[true, true, false, true, false, false, false, false] rfl rfl (take_ofW HT_.out HW_.out (by kernel_rfl)) (fun _ _ _ h => h) (Or.inl ⟨by rfl, ?_⟩) hHeld ?_ ?_
             rotate_left
             · rintro w' ⟨s0, s1, s2, s3, s4, s5, s6, s7, s8, s9, s10, s11, s12, s13, s14, s15, s16, s17, s18, s19, s20, s21, s22, s23, s24, s25, s26, s27⟩
               go_simp
               with_reducible rfl
             rotate_left
             · simp only [Act.put, sT, sZ, sS, i64_w, i32_w]
               rfl
             refine take_ (i := 4) (N := some 79) (v := ?_) (a' := ?_) #[true, true, false, true, true, false, false, false] rfl rfl (take_ofW HT_.out HW_.out (by kernel_rfl)) (fun _ _ _ h => h) (Or.inl ⟨by rfl, ?_⟩) hHeld ?_ ?_
             rotate_left
             · rintro w' ⟨s0, s1, s2, s3, s4, s5, s6, s7, s8, s9, s10, s11, s12, s13, s14, s15, s16, s17, s18, s19, s20, s21, s22, s23, s24, s25, s26, s27⟩
               go_simp
               with_reducible rfl
             rotate_left
             · simp only [Act.put, sT, sZ, sS, i64_w, i32_w]
               rfl
             refine one_ (i := 2) (N := some 77) (tf 5 3) rfl rfl (one_of HT_.out (by kernel_rfl)) (by decide) (fun K hK => ?_)
             refine goes_ Try.func34 (by kernel_rfl) rfl #[.agg #[.int .i64 a0_0, .slice none 0 0, .slice none 0 0, .slice A0_3 l0_3.length c0_3, .int .u32 0, .int .u32 0], .agg #[.int .u32 t231, .int .i64 t232, .slice Ao148 t233.length co148, .slice A1_3 l1_3.length c1_3, .int .u32 t239, .int .u32 t240, .int .i64 t241, .int .u32 t242]] (by rfl) rfl rfl (by (try simp only [List.map_toArray, List.map_cons, List.map_nil]); first | done | rfl | (simp only [List.length_drop, List.length_take]; rfl)) ?_
             refine (cond_Holds.calls kj5 a0_0 _ _ ([] : List (S83)) _ _ ([] : List (S61)) _ _ l0_3 0 0 t231 t232 _ _ t233 _ _ l1_3 t239 t240 t241 t242 t249 _ ?side1 ?side2 ?side3 ?side4 ?side5 ?side6 ?side7 ?side8 ?side9 ?side10 A115.out).mono ?_
             (case side1 => exact Kd.C_nil _ _)
             (case side2 => exact Nat.le_refl _)
             (case side3 => exact Kd.C_nil _ _)
             (case side4 => exact Nat.le_refl _)
             (case side5 => repeat (first | exact (Kd.C_below HR0_3.out HB.out) | (with_reducible refine Kd.C_alloc ?_ _) | (with_reducible refine Kd.C_drewN ?_ _) | (with_reducible refine Kd.C_drew ?_)))
             (case side6 => exact HC0_3.out)
             (case side7 => repeat (first | exact (Kd.R_reads' HO235.out).2.2 | (with_reducible refine Kd.C_alloc ?_ _) | (with_reducible refine Kd.C_drewN ?_ _) | (with_reducible refine Kd.C_drew ?_)))
             (case side8 => exact (Kd.R_reads' HO235.out).2.1)
             (case side9 => repeat (first | exact (Kd.C_below HR1_3.out HB.out) | (with_reducible refine Kd.C_alloc ?_ _) | (with_reducible refine Kd.C_drewN ?_ _) | (with_reducible refine Kd.C_drew ?_)))
             (case side10 => exact HC1_3.out)
             rintro e w149 ⟨rfl, hb⟩
             refine ⟨_, rfl, ?_⟩
             have n0_ := aM (Kd.R_below (uk_ HO235.out) hb)
             have n1_ := aM (Kd.R_below (uk_ HO238.out) hb)
             have n2_ := aM (blk_below (g := gb224) (o := .cells #[.int .i64 a0_0, .slice A0_1 l0_1.length c0_1, .slice A0_2 l0_2.length c0_2, .slice A0_3 l0_3.length c0_3, .int .u32 a0_4, .int .u32 a0_5] 46 (0, 0)) (up_ BK224.out) hb)
             have n3_ := aM (blk_below (g := gb225) (o := .cells #[.int .u32 a1_0, .int .i64 a1_1, .slice A1_2 l1_2.length c1_2, .slice A1_3 l1_3.length c1_3, .int .u32 a1_4, .int .u32 a1_5, .int .i64 a1_6, .int .u32 a1_7] 50 (0, 0)) (up_ BK225.out) hb)
             have n4_ := aM (blk_below (g := gb226) (o := .cells #[.int .u32 a2_0, .int .i64 a2_1, .slice A2_2 l2_2.length c2_2, .slice A2_3 l2_3.length c2_3, .int .u32 a2_4, .int .u32 a2_5, .int .i64 a2_6, .int .u32 a2_7] 50 (0, 0)) (up_ BK226.out) hb)
             have n5_ := aM (blk_below (g := gb243) (o := .cells #[.int .i64 a0_0, .slice none 0 0, .slice none 0 0, .slice A0_3 l0_3.length c0_3, .int .u32 0, .int .u32 0] 46 (0, 0)) (up_ BK243.out) hb)
             have n6_ := aM (blk_below (g := gb244) (o := .cells #[.int .u32 t231, .int .i64 t232, .slice Ao148 t233.length co148, .slice A1_3 l1_3.length c1_3, .int .u32 t239, .int .u32 t240, .int .i64 t241, .int .u32 t242] 50 (0, 0)) (up_ BK244.out) hb)
             have n7_ := aM (below_step (bw_ HB.out) hb)
             clear HO235
             clear HO238
             clear BK224
             clear BK225
             clear BK226
             clear BK243
             clear BK244
             clear HB
             have HO235 := n0_
             have HO238 := n1_
             have BK224 := n2_
             have BK225 := n3_
             have BK226 := n4_
             have BK243 := n5_
             have BK244 := n6_
             have HB := n7_
             clear n0_ n1_ n2_ n3_ n4_ n5_ n6_ n7_
             (try clear hb)
             (try clear hb2)
             (try clear hk)
             (try clear hi)
             refine hK.out _ _ ⟨(blk_cell BK243.out 0).trans rfl, (blk_cell BK243.out 1).trans rfl, (blk_cell BK243.out 2).trans rfl, (blk_cell BK243.out 3).trans rfl, (blk_cell BK243.out 4).trans rfl, (blk_cell BK243.out 5).trans rfl, (blk_cell BK244.out 0).trans rfl, (blk_cell BK244.out 1).trans rfl, (blk_cell BK244.out 2).trans rfl, (blk_cell BK244.out 3).trans rfl, (blk_cell BK244.out 4).trans rfl, (blk_cell BK244.out 5).trans rfl, (blk_cell BK244.out 6).trans rfl, (blk_cell BK244.out 7).trans rfl, (blk_cell BK224.out 0).trans rfl, (blk_cell BK224.out 1).trans rfl, (blk_cell BK224.out 2).trans rfl, (blk_cell BK224.out 3).trans rfl, (blk_cell BK224.out 4).trans rfl, (blk_cell BK224.out 5).trans rfl, (blk_cell BK225.out 0).trans rfl, (blk_cell BK225.out 1).trans rfl, (blk_cell BK225.out 2).trans rfl, (blk_cell BK225.out 3).trans rfl, (blk_cell BK225.out 4).trans rfl, (blk_cell BK225.out 5).trans rfl, (blk_cell BK225.out 6).trans rfl, (blk_cell BK225.out 7).trans rfl⟩ (fun hHeld => ?_)
             clear hK K
             refine norm_ (a' := ?_) ?_ ?_
             rotate_left
             · show Act.put _ (some 77) _ = _
               simp only [Act.put, sT, sZ, sS, i64_w, i32_w]
               rfl
             refine one_ (i := 5) (N := some 80) (tf 6 2) rfl rfl (one_of HT_.out (by kernel_rfl)) (by decide) (fun K hK => ?_)
             refine goes_ Try.func34 (by kernel_rfl) rfl #[.agg #[.int .i64 a0_0, .slice A0_1 l0_1.length c0_1, .slice A0_2 l0_2.length c0_2, .slice A0_3 l0_3.length c0_3, .int .u32 a0_4, .int .u32 a0_5], .agg #[.int .u32 a1_0, .int .i64 a1_1, .slice A1_2 l1_2.length c1_2, .slice A1_3 l1_3.length c1_3, .int .u32 a1_4, .int .u32 a1_5, .int .i64 a1_6, .int .u32 a1_7]] (by rfl) rfl rfl (by (try simp only [List.map_toArray, List.map_cons, List.map_nil]); first | done | rfl | (simp only [List.length_drop, List.length_take]; rfl)) ?_
             with_reducible refine (cond_Holds.calls kj5 a0_0 _ _ l0_1 _ _ l0_2 _ _ l0_3 a0_4 a0_5 a1_0 a1_1 _ _ l1_2 _ _ l1_3 a1_4 a1_5 a1_6 a1_7 t250 _ ?side1 ?side2 ?side3 ?side4 ?side5 ?side6 ?side7 ?side8 ?side9 ?side10 A116.out).mono ?_
             (case side1 => repeat (first | exact (Kd.C_below HR0_1.out HB.out) | (with_reducible refine Kd.C_alloc ?_ _) | (with_reducible refine Kd.C_drewN ?_ _) | (with_reducible refine Kd.C_drew ?_)))
             (case side2 => exact HC0_1.out)
             (case side3 => repeat (first | exact (Kd.C_below HR0_2.out HB.out) | (with_reducible refine Kd.C_alloc ?_ _) | (with_reducible refine Kd.C_drewN ?_ _) | (with_reducible refine Kd.C_drew ?_)))
             (case side4 => exact HC0_2.out)
             (case side5 => repeat (first | exact (Kd.C_below HR0_3.out HB.out) | (with_reducible refine Kd.C_alloc ?_ _) | (with_reducible refine Kd.C_drewN ?_ _) | (with_reducible refine Kd.C_drew ?_)))
             (case side6 => exact HC0_3.out)
             (case side7 => repeat (first | exact (Kd.C_below HR1_2.out HB.out) | (with_reducible refine Kd.C_alloc ?_ _) | (with_reducible refine Kd.C_drewN ?_ _) | (with_reducible refine Kd.C_drew ?_)))
             (case side8 => exact HC1_2.out)
             (case side9 => repeat (first | exact (Kd.C_below HR1_3.out HB.out) | (with_reducible refine Kd.C_alloc ?_ _) | (with_reducible refine Kd.C_drewN ?_ _) | (with_reducible refine Kd.C_drew ?_)))
             (case side10 => exact HC1_3.out)
             rintro e w150 ⟨rfl, hb⟩
             refine ⟨_, rfl, ?_⟩
             have n0_ := aM (Kd.R_below (uk_ HO235.out) hb)
             have n1_ := aM (Kd.R_below (uk_ HO238.out) hb)
             have n2_ := aM (blk_below (g := gb224) (o := .cells #[.int .i64 a0_0, .slice A0_1 l0_1.length c0_1, .slice A0_2 l0_2.length c0_2, .slice A0_3 l0_3.length c0_3, .int .u32 a0_4, .int .u32 a0_5] 46 (0, 0)) (up_ BK224.out) hb)
             have n3_ := aM (blk_below (g := gb225) (o := .cells #[.int .u32 a1_0, .int .i64 a1_1, .slice A1_2 l1_2.length c1_2, .slice A1_3 l1_3.length c1_3, .int .u32 a1_4, .int .u32 a1_5, .int .i64 a1_6, .int .u32 a1_7] 50 (0, 0)) (up_ BK225.out) hb)
             have n4_ := aM (blk_below (g := gb226) (o := .cells #[.int .u32 a2_0, .int .i64 a2_1, .slice A2_2 l2_2.length c2_2, .slice A2_3 l2_3.length c2_3, .int .u32 a2_4, .int .u32 a2_5, .int .i64 a2_6, .int .u32 a2_7] 50 (0, 0)) (up_ BK226.out) hb)
             have n5_ := aM (blk_below (g := gb243) (o := .cells #[.int .i64 a0_0, .slice none 0 0, .slice none 0 0, .slice A0_3 l0_3.length c0_3, .int .u32 0, .int .u32 0] 46 (0, 0)) (up_ BK243.out) hb)
             have n6_ := aM (blk_below (g := gb244) (o := .cells #[.int .u32 t231, .int .i64 t232, .slice Ao148 t233.length co148, .slice A1_3 l1_3.length c1_3, .int .u32 t239, .int .u32 t240, .int .i64 t241, .int .u32 t242] 50 (0, 0)) (up_ BK244.out) hb)
             have n7_ := aM (below_step (bw_ HB.out) hb)
             clear HO235
             clear HO238
             clear BK224
             clear BK225
             clear BK226
             clear BK243
             clear BK244
             clear HB
             have HO235 := n0_
             have HO238 := n1_
             have BK224 := n2_
             have BK225 := n3_
             have BK226 := n4_
             have BK243 := n5_
             have BK244 := n6_
             have HB := n7_
             clear n0_ n1_ n2_ n3_ n4_ n5_ n6_ n7_
             (try clear hb)
             (try clear hb2)
             (try clear hk)
             (try clear hi)
             refine hK.out _ _ ⟨(blk_cell BK243.out 0).trans rfl, (blk_cell BK243.out 1).trans rfl, (blk_cell BK243.out 2).trans rfl, (blk_cell BK243.out 3).trans rfl, (blk_cell BK243.out 4).trans rfl, (blk_cell BK243.out 5).trans rfl, (blk_cell BK244.out 0).trans rfl, (blk_cell BK244.out 1).trans rfl, (blk_cell BK244.out 2).trans rfl, (blk_cell BK244.out 3).trans rfl, (blk_cell BK244.out 4).trans rfl, (blk_cell BK244.out 5).trans rfl, (blk_cell BK244.out 6).trans rfl, (blk_cell BK244.out 7).trans rfl, (blk_cell BK224.out 0).trans rfl, (blk_cell BK224.out 1).trans rfl, (blk_cell BK224.out 2).trans rfl, (blk_cell BK224.out 3).trans rfl, (blk_cell BK224.out 4).trans rfl, (blk_cell BK224.out 5).trans rfl, (blk_cell BK225.out 0).trans rfl, (blk_cell BK225.out 1).trans rfl, (blk_cell BK225.out 2).trans rfl, (blk_cell BK225.out 3).trans rfl, (blk_cell BK225.out 4).trans rfl, (blk_cell BK225.out 5).trans rfl, (blk_cell BK225.out 6).trans rfl, (blk_cell BK225.out 7).trans rfl⟩ (fun hHeld => ?_)
             clear hK K
             refine norm_ (a' := ?_) ?_ ?_
             rotate_left
             · show Act.put _ (some 80) _ = _
               simp only [Act.put, sT, sZ, sS, i64_w, i32_w]
               rfl
             refine pure_ (i := 6) (N := some 81) (v := ?_) (a' := ?_) (tf 7 1) rfl rfl (any_of HT_.out (by kernel_rfl)) (fun _ _ _ h => h) (Or.inl ⟨by rfl, ?_⟩) ?_ ?_
             rotate_left
             · intro w'
               go_simp
               with_reducible rfl
             rotate_left
             · simp only [Act.put, sT, sZ, sS, i64_w, i32_w]
               rfl
             refine pure_ (i := 7) (N := some 6) (v := ?_) (a' := ?_) (tf 8 0) rfl rfl (any_of HT_.out (by kernel_rfl)) (fun _ _ _ h => h) (Or.inl ⟨by rfl, ?_⟩) ?_ ?_
             rotate_left
             · intro w'
               go_simp
               with_reducible rfl
             rotate_left
             · simp only [Act.put, sT, sZ, sS, i64_w, i32_w]
               rfl
             refine done_ (done_of HT_.out (by kernel_rfl)) ?_
             try go_wp2
             first | go_ret | refine ⟨_, results_tmp rfl _ _ _, ?_⟩
             exact ⟨by first | rfl | (simp [errW_none, errW_some] <;> rfl) | (simp [*, errW_none, errW_some] <;> rfl), by repeat (first | (with_reducible first | exact HB.out | apply blA | apply blN | apply blD | refine bS ?_ GE224.out | refine bS ?_ GE225.out | refine bS ?_ GE226.out | refine bS ?_ GE243.out | refine bS ?_ GE244.out) | exact HB.out)⟩
           · rw [if_neg c114] at H
             have c114b0 : (a0_0 == 3) = false := beq_eq_false_iff_ne.mpr c114
             have c114b1 : (a0_0 != 3) = true := bne_iff_ne.mpr c114
             by_cases c151 : a0_0 = 7
             · rw [if_pos c151] at H
               have c151b0 : (a0_0 == 7) = true := beq_iff_eq.mpr c151
               have c151b1 : (a0_0 != 7) = false := bne_eq_false_iff_eq.mpr c151
               clear c151
               replace H := Option.bind_eq_some_iff.mp H
               obtain ⟨t251, A1520, H⟩ := H
               replace H : ((cond_Holds.f kj5 a0_0 l0_1 l0_2 l0_3 a0_4 a0_5 a1_0 a1_1 l1_2 l1_3 a1_4 a1_5 a1_6 a1_7).bind fun t252 => (some (t251 == t252))) = some r := H
               have A152 := aM A1520
               clear A1520
               replace H := Option.bind_eq_some_iff.mp H
               obtain ⟨t252, A1530, H⟩ := H
               replace H : (some (t251 == t252)) = some r := H
               have A153 := aM A1530
               clear A1530
               obtain rfl := Option.some.inj H
               have hnb175 := NB224_225.out
               have hnc175 := NB225_224.out
               have hnb176 := NB224_226.out
               have hnc176 := NB226_224.out
               have hnb177 := NB224_243.out
               have hnc177 := NB243_224.out
               have hnb178 := NB224_244.out
               have hnc178 := NB244_224.out
               have hcz179_0 : w61.cell? ⟨gb224, 0, none⟩ = some (.int .i64 a0_0) := (blk_cell BK224.out 0).trans rfl
               have hcz179_1 : w61.cell? ⟨gb224, 1, none⟩ = some (.slice A0_1 l0_1.length c0_1) := (blk_cell BK224.out 1).trans rfl
               have hcz179_2 : w61.cell? ⟨gb224, 2, none⟩ = some (.slice A0_2 l0_2.length c0_2) := (blk_cell BK224.out 2).trans rfl
               have hcz179_3 : w61.cell? ⟨gb224, 3, none⟩ = some (.slice A0_3 l0_3.length c0_3) := (blk_cell BK224.out 3).trans rfl
               have hcz179_4 : w61.cell? ⟨gb224, 4, none⟩ = some (.int .u32 a0_4) := (blk_cell BK224.out 4).trans rfl
               have hcz179_5 : w61.cell? ⟨gb224, 5, none⟩ = some (.int .u32 a0_5) := (blk_cell BK224.out 5).trans rfl
               have hfz179_0 := bF BK224.out 0
               have hfz179_1 := bF BK224.out 1
               have hfz179_2 := bF BK224.out 2
               have hfz179_3 := bF BK224.out 3
               have hfz179_4 := bF BK224.out 4
               have hfz179_5 := bF BK224.out 5
               try go_wp2
               have n0_ := aM (Kd.R_drew HO235.out)
               have n1_ := aM (Kd.R_drew HO238.out)
               have n2_ := aM (blk_drew BK224.out)
               have n3_ := aM (blk_drew BK225.out)
               have n4_ := aM (blk_drew BK226.out)
               have n5_ := aM (blk_drew BK243.out)
               have n6_ := aM (blk_drew BK244.out)
               have n7_ := aM (below_drew1 HB.out)
               clear HO235
               clear HO238
               clear BK224
               clear BK225
               clear BK226
               clear BK243
               clear BK244
               clear HB
               have HO235 := n0_
               have HO238 := n1_
               have BK224 := n2_
               have BK225 := n3_
               have BK226 := n4_
               have BK243 := n5_
               have BK244 := n6_
               have HB := n7_
               clear n0_ n1_ n2_ n3_ n4_ n5_ n6_ n7_
               refine start_ (n := 8) (S := fun w' => w'.cell? ⟨gb224, 0, none⟩ = some (.int .i64 a0_0) ∧ w'.cell? ⟨gb224, 1, none⟩ = some (.slice A0_1 l0_1.length c0_1) ∧ w'.cell? ⟨gb224, 2, none⟩ = some (.slice A0_2 l0_2.length c0_2) ∧ w'.cell? ⟨gb224, 3, none⟩ = some (.slice A0_3 l0_3.length c0_3) ∧ w'.cell? ⟨gb224, 4, none⟩ = some (.int .u32 a0_4) ∧ w'.cell? ⟨gb224, 5, none⟩ = some (.int .u32 a0_5) ∧ w'.cell? ⟨gb225, 0, none⟩ = some (.int .u32 a1_0) ∧ w'.cell? ⟨gb225, 1, none⟩ = some (.int .i64 a1_1) ∧ w'.cell? ⟨gb225, 2, none⟩ = some (.slice A1_2 l1_2.length c1_2) ∧ w'.cell? ⟨gb225, 3, none⟩ = some (.slice A1_3 l1_3.length c1_3) ∧ w'.cell? ⟨gb225, 4, none⟩ = some (.int .u32 a1_4) ∧ w'.cell? ⟨gb225, 5, none⟩ = some (.int .u32 a1_5) ∧ w'.cell? ⟨gb225, 6, none⟩ = some (.int .i64 a1_6) ∧ w'.cell? ⟨gb225, 7, none⟩ = some (.int .u32 a1_7)) (ds := []) (tf 0 8) (by kernel_rfl) rfl rfl ⟨(blk_cell BK224.out 0).trans rfl, (blk_cell BK224.out 1).trans rfl, (blk_cell BK224.out 2).trans rfl, (blk_cell BK224.out 3).trans rfl, (blk_cell BK224.out 4).trans rfl, (blk_cell BK224.out 5).trans rfl, (blk_cell BK225.out 0).trans rfl, (blk_cell BK225.out 1).trans rfl, (blk_cell BK225.out 2).trans rfl, (blk_cell BK225.out 3).trans rfl, (blk_cell BK225.out 4).trans rfl, (blk_cell BK225.out 5).trans rfl, (blk_cell BK225.out 6).trans rfl, (blk_cell BK225.out 7).trans rfl⟩ (fun hHeld => ?_); refine with_tabW dragomanlaw11_CondOwn.tab15 dragomanlaw11_CondOwn.bits15 (fun HT_ HW_ => ?_)
               generalize w61.drew = w180 at HO235 HO238 BK224 BK225 BK226 BK243 BK244 HB hHeld ⊢
               refine pure_ (i := 0) (N := some 69) (v := ?_) (a' := ?_) (tf 1 7) rfl rfl (any_of HT_.out (by kernel_rfl)) (fun _ _ _ h => h) (Or.inl ⟨by rfl, ?_⟩) ?_ ?_
               rotate_left
               · intro w'
                 go_simp
                 with_reducible rfl
               rotate_left
               · simp only [Act.put, sT, sZ, sS, i64_w, i32_w]
                 rfl
               refine pure_ (i := 2) (N := some 71) (v := ?_) (a' := ?_) #[true, false, true, false, false, false, false, false] rfl rfl (any_of HT_.out (by kernel_rfl)) (fun _ _ _ h => h) (Or.inl ⟨by rfl, ?_⟩) ?_ ?_
               rotate_left
               · intro w'
                 go_simp
                 with_reducible rfl
               rotate_left
               · simp only [Act.put, sT, sZ, sS, i64_w, i32_w]
                 rfl
               refine take_ (i := 1) (N := some 70) (v := ?_) (a' := ?_) (tf 3 5) rfl rfl (take_ofW HT_.out HW_.out (by kernel_rfl)) (fun _ _ _ h => h) (Or.inl ⟨by rfl, ?_⟩) hHeld ?_ ?_
               rotate_left
               · rintro w' ⟨s0, s1, s2, s3, s4, s5, s6, s7, s8, s9, s10, s11, s12, s13⟩
                 go_simp
                 with_reducible rfl
               rotate_left
               · simp only [Act.put, sT, sZ, sS, i64_w, i32_w]
                 rfl
               refine pure_ (i := 4) (N := some 73) (v := ?_) (a' := ?_) #[true, true, true, false, true, false, false, false] rfl rfl (any_of HT_.out (by kernel_rfl)) (fun _ _ _ h => h) (Or.inl ⟨by rfl, ?_⟩) ?_ ?_
               rotate_left
               · intro w'
                 go_simp
                 with_reducible rfl
               rotate_left
               · simp only [Act.put, sT, sZ, sS, i64_w, i32_w]
                 rfl
               refine take_ (i := 3) (N := some 72) (v := ?_) (a' := ?_) (tf 5 3) rfl rfl (take_ofW HT_.out HW_.out (by kernel_rfl)) (fun _ _ _ h => h) (Or.inl ⟨by rfl, ?_⟩) hHeld ?_ ?_
               rotate_left
               · rintro w' ⟨s0, s1, s2, s3, s4, s5, s6, s7, s8, s9, s10, s11, s12, s13⟩
                 go_simp
                 with_reducible rfl
               rotate_left
               · simp only [Act.put, sT, sZ, sS, i64_w, i32_w]
                 rfl
               refine one_ (i := 5) (N := none) (tf 6 2) rfl rfl (one_of HT_.out (by kernel_rfl)) (by decide) (fun K hK => ?_)
               have hs181 : w180.cell? ⟨gb243, 1, none⟩ = some (.slice none 0 0) := (blk_cell BK243.out 1).trans rfl
               have hfs181 := bF BK243.out 1
               have hns181_0 := NB224_243.out
               have hns181_1 := NB225_243.out
               have hns181_2 := NB226_243.out
               have hns181_4 := NB244_243.out
               have hms181_0 := NB243_224.out
               have hms181_1 := NB243_225.out
               have hms181_2 := NB243_226.out
               have hms181_4 := NB243_244.out
               refine skip_ (w1 := ?_) (by rfl) rfl ?_ ?_
               rotate_left
               · go_simp
                 rfl
               refine hK.out _ _ ⟨((cell_far (p := ⟨gb243, _, none⟩) NB224_243.out _).trans (hHeld.1)), ((cell_far (p := ⟨gb243, _, none⟩) NB224_243.out _).trans (hHeld.2.1)), ((cell_far (p := ⟨gb243, _, none⟩) NB224_243.out _).trans (hHeld.2.2.1)), ((cell_far (p := ⟨gb243, _, none⟩) NB224_243.out _).trans (hHeld.2.2.2.1)), ((cell_far (p := ⟨gb243, _, none⟩) NB224_243.out _).trans (hHeld.2.2.2.2.1)), ((cell_far (p := ⟨gb243, _, none⟩) NB224_243.out _).trans (hHeld.2.2.2.2.2.1)), ((cell_far (p := ⟨gb243, _, none⟩) NB225_243.out _).trans (hHeld.2.2.2.2.2.2.1)), ((cell_far (p := ⟨gb243, _, none⟩) NB225_243.out _).trans (hHeld.2.2.2.2.2.2.2.1)), ((cell_far (p := ⟨gb243, _, none⟩) NB225_243.out _).trans (hHeld.2.2.2.2.2.2.2.2.1)), ((cell_far (p := ⟨gb243, _, none⟩) NB225_243.out _).trans (hHeld.2.2.2.2.2.2.2.2.2.1)), ((cell_far (p := ⟨gb243, _, none⟩) NB225_243.out _).trans (hHeld.2.2.2.2.2.2.2.2.2.2.1)), ((cell_far (p := ⟨gb243, _, none⟩) NB225_243.out _).trans (hHeld.2.2.2.2.2.2.2.2.2.2.2.1)), ((cell_far (p := ⟨gb243, _, none⟩) NB225_243.out _).trans (hHeld.2.2.2.2.2.2.2.2.2.2.2.2.1)), ((cell_far (p := ⟨gb243, _, none⟩) NB225_243.out _).trans (hHeld.2.2.2.2.2.2.2.2.2.2.2.2.2))⟩ (fun hHeld => ?_)
               clear hK K
               refine pure_ (i := 6) (N := some 74) (v := ?_) (a' := ?_) (tf 7 1) rfl rfl (any_of HT_.out (by kernel_rfl)) (fun _ _ _ h => h) (Or.inl ⟨by rfl, ?_⟩) ?_ ?_
               rotate_left
               · intro w'
                 go_simp
                 with_reducible rfl
               rotate_left
               · simp only [Act.put, sT, sZ, sS, i64_w, i32_w]
                 rfl
               refine one_ (i := 7) (N := none) (tf 8 0) rfl rfl (one_of HT_.out (by kernel_rfl)) (by decide) (fun K hK => ?_)
               have hs182 : w180.cell? ⟨gb244, 7, none⟩ = some (.int .u32 t242) := (blk_cell BK244.out 7).trans rfl
               have hfs182 := bF BK244.out 7
               have hns182_0 := NB224_244.out
               have hns182_1 := NB225_244.out
               have hns182_2 := NB226_244.out
               have hns182_3 := NB243_244.out
               have hms182_0 := NB244_224.out
               have hms182_1 := NB244_225.out
               have hms182_2 := NB244_226.out
               have hms182_3 := NB244_243.out
               refine skip_ (w1 := ?_) (by rfl) rfl ?_ ?_
               rotate_left
               · go_simp
                 rfl
               refine hK.out _ _ ⟨((cell_far (p := ⟨gb244, _, none⟩) NB224_244.out _).trans (hHeld.1)), ((cell_far (p := ⟨gb244, _, none⟩) NB224_244.out _).trans (hHeld.2.1)), ((cell_far (p := ⟨gb244, _, none⟩) NB224_244.out _).trans (hHeld.2.2.1)), ((cell_far (p := ⟨gb244, _, none⟩) NB224_244.out _).trans (hHeld.2.2.2.1)), ((cell_far (p := ⟨gb244, _, none⟩) NB224_244.out _).trans (hHeld.2.2.2.2.1)), ((cell_far (p := ⟨gb244, _, none⟩) NB224_244.out _).trans (hHeld.2.2.2.2.2.1)), ((cell_far (p := ⟨gb244, _, none⟩) NB225_244.out _).trans (hHeld.2.2.2.2.2.2.1)), ((cell_far (p := ⟨gb244, _, none⟩) NB225_244.out _).trans (hHeld.2.2.2.2.2.2.2.1)), ((cell_far (p := ⟨gb244, _, none⟩) NB225_244.out _).trans (hHeld.2.2.2.2.2.2.2.2.1)), ((cell_far (p := ⟨gb244, _, none⟩) NB225_244.out _).trans (hHeld.2.2.2.2.2.2.2.2.2.1)), ((cell_far (p := ⟨gb244, _, none⟩) NB225_244.out _).trans (hHeld.2.2.2.2.2.2.2.2.2.2.1)), ((cell_far (p := ⟨gb244, _, none⟩) NB225_244.out _).trans (hHeld.2.2.2.2.2.2.2.2.2.2.2.1)), ((cell_far (p := ⟨gb244, _, none⟩) NB225_244.out _).trans (hHeld.2.2.2.2.2.2.2.2.2.2.2.2.1)), ((cell_far (p := ⟨gb244, _, none⟩) NB225_244.out _).trans (hHeld.2.2.2.2.2.2.2.2.2.2.2.2.2))⟩ (fun hHeld => ?_)
               clear hK K
               refine done_ (done_of HT_.out (by kernel_rfl)) ?_
               try go_wp2
               have n0_ : Aside0 (Kd.R (Kd.int .u32) 36 ((w180.setCell ⟨gb243, 1, none⟩ (.slice A0_1 l0_1.length c0_1)).setCell ⟨gb244, 7, none⟩ (.int .u32 a1_7)) w.heap.size (fun k_ => some k_ ≠ (v237 : Value).ownBlock) v234 t233) := ⟨by (with_reducible repeat (first | apply kA | apply kN | apply kD)); exact Kd.R_mono (Kd.R_far (p := ⟨gb244, 7, none⟩) (Kd.R_far (p := ⟨gb243, 1, none⟩) (Kd.R_types (Kd.R_types HO235.out BK243.out (by decide)) BK244.out (by decide)) (fun _ hk => hk.1.2) (.slice A0_1 l0_1.length c0_1)) (fun _ hk => hk.2) (.int .u32 a1_7)) (fun _ hk => hk.1.1)⟩
               have n1_ : Aside0 (Kd.R (Kd.int .u32) 36 ((w180.setCell ⟨gb243, 1, none⟩ (.slice A0_1 l0_1.length c0_1)).setCell ⟨gb244, 7, none⟩ (.int .u32 a1_7)) w.heap.size (fun k_ => some k_ ≠ (v234 : Value).ownBlock) v237 t236) := ⟨by (with_reducible repeat (first | apply kA | apply kN | apply kD)); exact Kd.R_mono (Kd.R_far (p := ⟨gb244, 7, none⟩) (Kd.R_far (p := ⟨gb243, 1, none⟩) (Kd.R_types (Kd.R_types HO238.out BK243.out (by decide)) BK244.out (by decide)) (fun _ hk => hk.1.2) (.slice A0_1 l0_1.length c0_1)) (fun _ hk => hk.2) (.int .u32 a1_7)) (fun _ hk => hk.1.1)⟩
               have n2_ : Aside0 (((w180.setCell ⟨gb243, 1, none⟩ (.slice A0_1 l0_1.length c0_1)).setCell ⟨gb244, 7, none⟩ (.int .u32 a1_7)).heap[gb224]? = some (.cells #[.int .i64 a0_0, .slice A0_1 l0_1.length c0_1, .slice A0_2 l0_2.length c0_2, .slice A0_3 l0_3.length c0_3, .int .u32 a0_4, .int .u32 a0_5] 46 (0, 0))) := ⟨by (with_reducible repeat (first | apply bkN | apply bkD | apply bkA)); refine blk_far ?_ NB224_244.out _; (with_reducible repeat (first | apply bkN | apply bkD | apply bkA)); refine blk_far ?_ NB224_243.out _; (with_reducible repeat (first | apply bkN | apply bkD | apply bkA)); exact BK224.out⟩
               have n3_ : Aside0 (((w180.setCell ⟨gb243, 1, none⟩ (.slice A0_1 l0_1.length c0_1)).setCell ⟨gb244, 7, none⟩ (.int .u32 a1_7)).heap[gb225]? = some (.cells #[.int .u32 a1_0, .int .i64 a1_1, .slice A1_2 l1_2.length c1_2, .slice A1_3 l1_3.length c1_3, .int .u32 a1_4, .int .u32 a1_5, .int .i64 a1_6, .int .u32 a1_7] 50 (0, 0))) := ⟨by (with_reducible repeat (first | apply bkN | apply bkD | apply bkA)); refine blk_far ?_ NB225_244.out _; (with_reducible repeat (first | apply bkN | apply bkD | apply bkA)); refine blk_far ?_ NB225_243.out _; (with_reducible repeat (first | apply bkN | apply bkD | apply bkA)); exact BK225.out⟩
               have n4_ : Aside0 (((w180.setCell ⟨gb243, 1, none⟩ (.slice A0_1 l0_1.length c0_1)).setCell ⟨gb244, 7, none⟩ (.int .u32 a1_7)).heap[gb226]? = some (.cells #[.int .u32 a2_0, .int .i64 a2_1, .slice A2_2 l2_2.length c2_2, .slice A2_3 l2_3.length c2_3, .int .u32 a2_4, .int .u32 a2_5, .int .i64 a2_6, .int .u32 a2_7] 50 (0, 0))) := ⟨by (with_reducible repeat (first | apply bkN | apply bkD | apply bkA)); refine blk_far ?_ NB226_244.out _; (with_reducible repeat (first | apply bkN | apply bkD | apply bkA)); refine blk_far ?_ NB226_243.out _; (with_reducible repeat (first | apply bkN | apply bkD | apply bkA)); exact BK226.out⟩
               have n5_ : Aside0 (((w180.setCell ⟨gb243, 1, none⟩ (.slice A0_1 l0_1.length c0_1)).setCell ⟨gb244, 7, none⟩ (.int .u32 a1_7)).heap[gb243]? = some (.cells #[.int .i64 a0_0, .slice A0_1 l0_1.length c0_1, .slice none 0 0, .slice none 0 0, .int .u32 0, .int .u32 0] 46 (0, 0))) := ⟨by (with_reducible repeat (first | apply bkN | apply bkD | apply bkA)); refine blk_far ?_ NB243_244.out _; (with_reducible repeat (first | apply bkN | apply bkD | apply bkA)); refine blk_put (cs := #[.int .i64 a0_0, .slice none 0 0, .slice none 0 0, .slice none 0 0, .int .u32 0, .int .u32 0]) ?_ 1 _ rfl; (with_reducible repeat (first | apply bkN | apply bkD | apply bkA)); exact BK243.out⟩
               have n6_ : Aside0 (((w180.setCell ⟨gb243, 1, none⟩ (.slice A0_1 l0_1.length c0_1)).setCell ⟨gb244, 7, none⟩ (.int .u32 a1_7)).heap[gb244]? = some (.cells #[.int .u32 t231, .int .i64 t232, v234, v237, .int .u32 t239, .int .u32 t240, .int .i64 t241, .int .u32 a1_7] 50 (0, 0))) := ⟨by (with_reducible repeat (first | apply bkN | apply bkD | apply bkA)); refine blk_put (cs := #[.int .u32 t231, .int .i64 t232, v234, v237, .int .u32 t239, .int .u32 t240, .int .i64 t241, .int .u32 t242]) ?_ 7 _ rfl; (with_reducible repeat (first | apply bkN | apply bkD | apply bkA)); refine blk_far ?_ NB244_243.out _; (with_reducible repeat (first | apply bkN | apply bkD | apply bkA)); exact BK244.out⟩
               have n7_ : Aside0 (Below w.heap.size w ((w180.setCell ⟨gb243, 1, none⟩ (.slice A0_1 l0_1.length c0_1)).setCell ⟨gb244, 7, none⟩ (.int .u32 a1_7))) := ⟨by repeat (first | (with_reducible first | exact HB.out | apply blA | apply blN | apply blD | refine bS ?_ GE224.out | refine bS ?_ GE225.out | refine bS ?_ GE226.out | refine bS ?_ GE243.out | refine bS ?_ GE244.out) | exact HB.out)⟩
               (try clear HO235)
               (try clear HO238)
               (try clear BK224)
               (try clear BK225)
               (try clear BK226)
               (try clear BK243)
               (try clear BK244)
               (try clear HB)
               generalize ((w180.setCell ⟨gb243, 1, none⟩ (.slice A0_1 l0_1.length c0_1)).setCell ⟨gb244, 7, none⟩ (.int .u32 a1_7)) = w183 at n0_ n1_ n2_ n3_ n4_ n5_ n6_ n7_ ⊢
               have HO235 := n0_
               have HO238 := n1_
               have BK224 := n2_
               have BK225 := n3_
               have BK226 := n4_
               have BK243 := n5_
               have BK244 := n6_
               have HB := n7_
               clear n0_ n1_ n2_ n3_ n4_ n5_ n6_ n7_
               have n0_ := aM (Kd.R_drew HO235.out)
               have n1_ := aM (Kd.R_drew HO238.out)
               have n2_ := aM (blk_drew BK224.out)
               have n3_ := aM (blk_drew BK225.out)
               have n4_ := aM (blk_drew BK226.out)
               have n5_ := aM (blk_drew BK243.out)
               have n6_ := aM (blk_drew BK244.out)
               have n7_ := aM (below_drew1 HB.out)
               clear HO235
               clear HO238
               clear BK224
               clear BK225
               clear BK226
               clear BK243
               clear BK244
               clear HB
               have HO235 := n0_
               have HO238 := n1_
               have BK224 := n2_
               have BK225 := n3_
               have BK226 := n4_
               have BK243 := n5_
               have BK244 := n6_
               have HB := n7_
               clear n0_ n1_ n2_ n3_ n4_ n5_ n6_ n7_
               obtain ⟨Ao185, co185, eo185⟩ := Kd.R_slice HO235.out
               (first | subst eo185 | (injection eo185 with f1_ f2_ f3_; have f4_ := f1_.symm; have f5_ := f3_.symm; clear f1_ f2_ f3_; subst f4_; subst f5_))
               obtain ⟨Ao186, co186, eo186⟩ := Kd.R_slice HO238.out
               (first | subst eo186 | (injection eo186 with f1_ f2_ f3_; have f4_ := f1_.symm; have f5_ := f3_.symm; clear f1_ f2_ f3_; subst f4_; subst f5_))
               refine start_ (n := 8) (S := fun w' => w'.cell? ⟨gb243, 0, none⟩ = some (.int .i64 a0_0) ∧ w'.cell? ⟨gb243, 1, none⟩ = some (.slice A0_1 l0_1.length c0_1) ∧ w'.cell? ⟨gb243, 2, none⟩ = some (.slice none 0 0) ∧ w'.cell? ⟨gb243, 3, none⟩ = some (.slice none 0 0) ∧ w'.cell? ⟨gb243, 4, none⟩ = some (.int .u32 0) ∧ w'.cell? ⟨gb243, 5, none⟩ = some (.int .u32 0) ∧ w'.cell? ⟨gb244, 0, none⟩ = some (.int .u32 t231) ∧ w'.cell? ⟨gb244, 1, none⟩ = some (.int .i64 t232) ∧ w'.cell? ⟨gb244, 2, none⟩ = some (.slice Ao185 t233.length co185) ∧ w'.cell? ⟨gb244, 3, none⟩ = some (.slice Ao186 t236.length co186) ∧ w'.cell? ⟨gb244, 4, none⟩ = some (.int .u32 t239) ∧ w'.cell? ⟨gb244, 5, none⟩ = some (.int .u32 t240) ∧ w'.cell? ⟨gb244, 6, none⟩ = some (.int .i64 t241) ∧ w'.cell? ⟨gb244, 7, none⟩ = some (.int .u32 a1_7) ∧ w'.cell? ⟨gb224, 0, none⟩ = some (.int .i64 a0_0) ∧ w'.cell? ⟨gb224, 1, none⟩ = some (.slice A0_1 l0_1.length c0_1) ∧ w'.cell? ⟨gb224, 2, none⟩ = some (.slice A0_2 l0_2.length c0_2) ∧ w'.cell? ⟨gb224, 3, none⟩ = some (.slice A0_3 l0_3.length c0_3) ∧ w'.cell? ⟨gb224, 4, none⟩ = some (.int .u32 a0_4) ∧ w'.cell? ⟨gb224, 5, none⟩ = some (.int .u32 a0_5) ∧ w'.cell? ⟨gb225, 0, none⟩ = some (.int .u32 a1_0) ∧ w'.cell? ⟨gb225, 1, none⟩ = some (.int .i64 a1_1) ∧ w'.cell? ⟨gb225, 2, none⟩ = some (.slice A1_2 l1_2.length c1_2) ∧ w'.cell? ⟨gb225, 3, none⟩ = some (.slice A1_3 l1_3.length c1_3) ∧ w'.cell? ⟨gb225, 4, none⟩ = some (.int .u32 a1_4) ∧ w'.cell? ⟨gb225, 5, none⟩ = some (.int .u32 a1_5) ∧ w'.cell? ⟨gb225, 6, none⟩ = some (.int .i64 a1_6) ∧ w'.cell? ⟨gb225, 7, none⟩ = some (.int .u32 a1_7)) (ds := []) (tf 0 8) (by kernel_rfl) rfl rfl ⟨(blk_cell BK243.out 0).trans rfl, (blk_cell BK243.out 1).trans rfl, (blk_cell BK243.out 2).trans rfl, (blk_cell BK243.out 3).trans rfl, (blk_cell BK243.out 4).trans rfl, (blk_cell BK243.out 5).trans rfl, (blk_cell BK244.out 0).trans rfl, (blk_cell BK244.out 1).trans rfl, (blk_cell BK244.out 2).trans rfl, (blk_cell BK244.out 3).trans rfl, (blk_cell BK244.out 4).trans rfl, (blk_cell BK244.out 5).trans rfl, (blk_cell BK244.out 6).trans rfl, (blk_cell BK244.out 7).trans rfl, (blk_cell BK224.out 0).trans rfl, (blk_cell BK224.out 1).trans rfl, (blk_cell BK224.out 2).trans rfl, (blk_cell BK224.out 3).trans rfl, (blk_cell BK224.out 4).trans rfl, (blk_cell BK224.out 5).trans rfl, (blk_cell BK225.out 0).trans rfl, (blk_cell BK225.out 1).trans rfl, (blk_cell BK225.out 2).trans rfl, (blk_cell BK225.out 3).trans rfl, (blk_cell BK225.out 4).trans rfl, (blk_cell BK225.out 5).trans rfl, (blk_cell BK225.out 6).trans rfl, (blk_cell BK225.out 7).trans rfl⟩ (fun hHeld => ?_); refine with_tabW dragomanlaw11_CondOwn.tab16 dragomanlaw11_CondOwn.bits16 (fun HT_ HW_ => ?_)
               generalize w183.drew = w184 at HO235 HO238 BK224 BK225 BK226 BK243 BK244 HB hHeld ⊢
               refine take_ (i := 0) (N := some 75) (v := ?_) (a' := ?_) (tf 1 7) rfl rfl (take_ofW HT_.out HW_.out (by kernel_rfl)) (fun _ _ _ h => h) (Or.inl ⟨by rfl, ?_⟩) hHeld ?_ ?_
               rotate_left
               · rintro w' ⟨s0, s1, s2, s3, s4, s5, s6, s7, s8, s9, s10, s11, s12, s13, s14, s15, s16, s17, s18, s19, s20, s21, s22, s23, s24, s25, s26, s27⟩
                 go_simp
                 with_reducible rfl
               rotate_left
               · simp only [Act.put, sT, sZ, sS, i64_w, i32_w]
                 rfl
               refine take_ (i := 1) (N := some 76) (v := ?_) (a' := ?_) (tf 2 6) rfl rfl (take_ofW HT_.out HW_.out (by kernel_rfl)) (fun _ _ _ h => h) (Or.inl ⟨by rfl, ?_⟩) hHeld ?_ ?_
               rotate_left
               · rintro w' ⟨s0, s1, s2, s3, s4, s5, s6, s7, s8, s9, s10, s11, s12, s13, s14, s15, s16, s17, s18, s19, s20, s21, s22, s23, s24, s25, s26, s27⟩
                 go_simp
                 with_reducible rfl
               rotate_left
               · simp only [Act.put, sT, sZ, sS, i64_w, i32_w]
                 rfl
               refine take_ (i := 3) (N := some 78) (v := ?_) (a' := ?_) #[true, true, false, true, false, false, false, false] rfl rfl (take_ofW HT_.out HW_.out (by kernel_rfl)) (fun _ _ _ h => h) (Or.inl ⟨by rfl, ?_⟩) hHeld ?_ ?_
               rotate_left
               · rintro w' ⟨s0, s1, s2, s3, s4, s5, s6, s7, s8, s9, s10, s11, s12, s13, s14, s15, s16, s17, s18, s19, s20, s21, s22, s23, s24, s25, s26, s27⟩
                 go_simp
                 with_reducible rfl
               rotate_left
               · simp only [Act.put, sT, sZ, sS, i64_w, i32_w]
                 rfl
               refine take_ (i := 4) (N := some 79) (v := ?_) (a' := ?_) #[true, true, false, true, true, false, false, false] rfl rfl (take_ofW HT_.out HW_.out (by kernel_rfl)) (fun _ _ _ h => h) (Or.inl ⟨by rfl, ?_⟩) hHeld ?_ ?_
               rotate_left
               · rintro w' ⟨s0, s1, s2, s3, s4, s5, s6, s7, s8, s9, s10, s11, s12, s13, s14, s15, s16, s17, s18, s19, s20, s21, s22, s23, s24, s25, s26, s27⟩
                 go_simp
                 with_reducible rfl
               rotate_left
               · simp only [Act.put, sT, sZ, sS, i64_w, i32_w]
                 rfl
               refine one_ (i := 2) (N := some 77) (tf 5 3) rfl rfl (one_of HT_.out (by kernel_rfl)) (by decide) (fun K hK => ?_)
               refine goes_ Try.func34 (by kernel_rfl) rfl #[.agg #[.int .i64 a0_0, .slice A0_1 l0_1.length c0_1, .slice none 0 0, .slice none 0 0, .int .u32 0, .int .u32 0], .agg #[.int .u32 t231, .int .i64 t232, .slice Ao185 t233.length co185, .slice Ao186 t236.length co186, .int .u32 t239, .int .u32 t240, .int .i64 t241, .int .u32 a1_7]] (by rfl) rfl rfl (by (try simp only [List.map_toArray, List.map_cons, List.map_nil]); first | done | rfl | (simp only [List.length_drop, List.length_take]; rfl)) ?_
               refine (cond_Holds.calls kj5 a0_0 _ _ l0_1 _ _ ([] : List (S61)) _ _ ([] : List (S64)) 0 0 t231 t232 _ _ t233 _ _ t236 t239 t240 t241 a1_7 t251 _ ?side1 ?side2 ?side3 ?side4 ?side5 ?side6 ?side7 ?side8 ?side9 ?side10 A152.out).mono ?_
               (case side1 => repeat (first | exact (Kd.C_below HR0_1.out HB.out) | (with_reducible refine Kd.C_alloc ?_ _) | (with_reducible refine Kd.C_drewN ?_ _) | (with_reducible refine Kd.C_drew ?_)))
               (case side2 => exact HC0_1.out)
               (case side3 => exact Kd.C_nil _ _)
               (case side4 => exact Nat.le_refl _)
               (case side5 => exact Kd.C_nil _ _)
               (case side6 => exact Nat.le_refl _)
               (case side7 => repeat (first | exact (Kd.R_reads' HO235.out).2.2 | (with_reducible refine Kd.C_alloc ?_ _) | (with_reducible refine Kd.C_drewN ?_ _) | (with_reducible refine Kd.C_drew ?_)))
               (case side8 => exact (Kd.R_reads' HO235.out).2.1)
               (case side9 => repeat (first | exact (Kd.R_reads' HO238.out).2.2 | (with_reducible refine Kd.C_alloc ?_ _) | (with_reducible refine Kd.C_drewN ?_ _) | (with_reducible refine Kd.C_drew ?_)))
               (case side10 => exact (Kd.R_reads' HO238.out).2.1)
               rintro e w187 ⟨rfl, hb⟩
               refine ⟨_, rfl, ?_⟩
               have n0_ := aM (Kd.R_below (uk_ HO235.out) hb)
               have n1_ := aM (Kd.R_below (uk_ HO238.out) hb)
               have n2_ := aM (blk_below (g := gb224) (o := .cells #[.int .i64 a0_0, .slice A0_1 l0_1.length c0_1, .slice A0_2 l0_2.length c0_2, .slice A0_3 l0_3.length c0_3, .int .u32 a0_4, .int .u32 a0_5] 46 (0, 0)) (up_ BK224.out) hb)
               have n3_ := aM (blk_below (g := gb225) (o := .cells #[.int .u32 a1_0, .int .i64 a1_1, .slice A1_2 l1_2.length c1_2, .slice A1_3 l1_3.length c1_3, .int .u32 a1_4, .int .u32 a1_5, .int .i64 a1_6, .int .u32 a1_7] 50 (0, 0)) (up_ BK225.out) hb)
               have n4_ := aM (blk_below (g := gb226) (o := .cells #[.int .u32 a2_0, .int .i64 a2_1, .slice A2_2 l2_2.length c2_2, .slice A2_3 l2_3.length c2_3, .int .u32 a2_4, .int .u32 a2_5, .int .i64 a2_6, .int .u32 a2_7] 50 (0, 0)) (up_ BK226.out) hb)
               have n5_ := aM (blk_below (g := gb243) (o := .cells #[.int .i64 a0_0, .slice A0_1 l0_1.length c0_1, .slice none 0 0, .slice none 0 0, .int .u32 0, .int .u32 0] 46 (0, 0)) (up_ BK243.out) hb)
               have n6_ := aM (blk_below (g := gb244) (o := .cells #[.int .u32 t231, .int .i64 t232, .slice Ao185 t233.length co185, .slice Ao186 t236.length co186, .int .u32 t239, .int .u32 t240, .int .i64 t241, .int .u32 a1_7] 50 (0, 0)) (up_ BK244.out) hb)
               have n7_ := aM (below_step (bw_ HB.out) hb)
               clear HO235
               clear HO238
               clear BK224
               clear BK225
               clear BK226
               clear BK243
               clear BK244
               clear HB
               have HO235 := n0_
               have HO238 := n1_
               have BK224 := n2_
               have BK225 := n3_
               have BK226 := n4_
               have BK243 := n5_
               have BK244 := n6_
               have HB := n7_
               clear n0_ n1_ n2_ n3_ n4_ n5_ n6_ n7_
               (try clear hb)
               (try clear hb2)
               (try clear hk)
               (try clear hi)
               refine hK.out _ _ ⟨(blk_cell BK243.out 0).trans rfl, (blk_cell BK243.out 1).trans rfl, (blk_cell BK243.out 2).trans rfl, (blk_cell BK243.out 3).trans rfl, (blk_cell BK243.out 4).trans rfl, (blk_cell BK243.out 5).trans rfl, (blk_cell BK244.out 0).trans rfl, (blk_cell BK244.out 1).trans rfl, (blk_cell BK244.out 2).trans rfl, (blk_cell BK244.out 3).trans rfl, (blk_cell BK244.out 4).trans rfl, (blk_cell BK244.out 5).trans rfl, (blk_cell BK244.out 6).trans rfl, (blk_cell BK244.out 7).trans rfl, (blk_cell BK224.out 0).trans rfl, (blk_cell BK224.out 1).trans rfl, (blk_cell BK224.out 2).trans rfl, (blk_cell BK224.out 3).trans rfl, (blk_cell BK224.out 4).trans rfl, (blk_cell BK224.out 5).trans rfl, (blk_cell BK225.out 0).trans rfl, (blk_cell BK225.out 1).trans rfl, (blk_cell BK225.out 2).trans rfl, (blk_cell BK225.out 3).trans rfl, (blk_cell BK225.out 4).trans rfl, (blk_cell BK225.out 5).trans rfl, (blk_cell BK225.out 6).trans rfl, (blk_cell BK225.out 7).trans rfl⟩ (fun hHeld => ?_)
               clear hK K
               refine norm_ (a' := ?_) ?_ ?_
               rotate_left
               · show Act.put _ (some 77) _ = _
                 simp only [Act.put, sT, sZ, sS, i64_w, i32_w]
                 rfl
               refine one_ (i := 5) (N := some 80) (tf 6 2) rfl rfl (one_of HT_.out (by kernel_rfl)) (by decide) (fun K hK => ?_)
               refine goes_ Try.func34 (by kernel_rfl) rfl #[.agg #[.int .i64 a0_0, .slice A0_1 l0_1.length c0_1, .slice A0_2 l0_2.length c0_2, .slice A0_3 l0_3.length c0_3, .int .u32 a0_4, .int .u32 a0_5], .agg #[.int .u32 a1_0, .int .i64 a1_1, .slice A1_2 l1_2.length c1_2, .slice A1_3 l1_3.length c1_3, .int .u32 a1_4, .int .u32 a1_5, .int .i64 a1_6, .int .u32 a1_7]] (by rfl) rfl rfl (by (try simp only [List.map_toArray, List.map_cons, List.map_nil]); first | done | rfl | (simp only [List.length_drop, List.length_take]; rfl)) ?_
               with_reducible refine (cond_Holds.calls kj5 a0_0 _ _ l0_1 _ _ l0_2 _ _ l0_3 a0_4 a0_5 a1_0 a1_1 _ _ l1_2 _ _ l1_3 a1_4 a1_5 a1_6 a1_7 t252 _ ?side1 ?side2 ?side3 ?side4 ?side5 ?side6 ?side7 ?side8 ?side9 ?side10 A153.out).mono ?_
               (case side1 => repeat (first | exact (Kd.C_below HR0_1.out HB.out) | (with_reducible refine Kd.C_alloc ?_ _) | (with_reducible refine Kd.C_drewN ?_ _) | (with_reducible refine Kd.C_drew ?_)))
               (case side2 => exact HC0_1.out)
               (case side3 => repeat (first | exact (Kd.C_below HR0_2.out HB.out) | (with_reducible refine Kd.C_alloc ?_ _) | (with_reducible refine Kd.C_drewN ?_ _) | (with_reducible refine Kd.C_drew ?_)))
               (case side4 => exact HC0_2.out)
               (case side5 => repeat (first | exact (Kd.C_below HR0_3.out HB.out) | (with_reducible refine Kd.C_alloc ?_ _) | (with_reducible refine Kd.C_drewN ?_ _) | (with_reducible refine Kd.C_drew ?_)))
               (case side6 => exact HC0_3.out)
               (case side7 => repeat (first | exact (Kd.C_below HR1_2.out HB.out) | (with_reducible refine Kd.C_alloc ?_ _) | (with_reducible refine Kd.C_drewN ?_ _) | (with_reducible refine Kd.C_drew ?_)))
               (case side8 => exact HC1_2.out)
               (case side9 => repeat (first | exact (Kd.C_below HR1_3.out HB.out) | (with_reducible refine Kd.C_alloc ?_ _) | (with_reducible refine Kd.C_drewN ?_ _) | (with_reducible refine Kd.C_drew ?_)))
               (case side10 => exact HC1_3.out)
               rintro e w188 ⟨rfl, hb⟩
               refine ⟨_, rfl, ?_⟩
               have n0_ := aM (Kd.R_below (uk_ HO235.out) hb)
               have n1_ := aM (Kd.R_below (uk_ HO238.out) hb)
               have n2_ := aM (blk_below (g := gb224) (o := .cells #[.int .i64 a0_0, .slice A0_1 l0_1.length c0_1, .slice A0_2 l0_2.length c0_2, .slice A0_3 l0_3.length c0_3, .int .u32 a0_4, .int .u32 a0_5] 46 (0, 0)) (up_ BK224.out) hb)
               have n3_ := aM (blk_below (g := gb225) (o := .cells #[.int .u32 a1_0, .int .i64 a1_1, .slice A1_2 l1_2.length c1_2, .slice A1_3 l1_3.length c1_3, .int .u32 a1_4, .int .u32 a1_5, .int .i64 a1_6, .int .u32 a1_7] 50 (0, 0)) (up_ BK225.out) hb)
               have n4_ := aM (blk_below (g := gb226) (o := .cells #[.int .u32 a2_0, .int .i64 a2_1, .slice A2_2 l2_2.length c2_2, .slice A2_3 l2_3.length c2_3, .int .u32 a2_4, .int .u32 a2_5, .int .i64 a2_6, .int .u32 a2_7] 50 (0, 0)) (up_ BK226.out) hb)
               have n5_ := aM (blk_below (g := gb243) (o := .cells #[.int .i64 a0_0, .slice A0_1 l0_1.length c0_1, .slice none 0 0, .slice none 0 0, .int .u32 0, .int .u32 0] 46 (0, 0)) (up_ BK243.out) hb)
               have n6_ := aM (blk_below (g := gb244) (o := .cells #[.int .u32 t231, .int .i64 t232, .slice Ao185 t233.length co185, .slice Ao186 t236.length co186, .int .u32 t239, .int .u32 t240, .int .i64 t241, .int .u32 a1_7] 50 (0, 0)) (up_ BK244.out) hb)
               have n7_ := aM (below_step (bw_ HB.out) hb)
               clear HO235
               clear HO238
               clear BK224
               clear BK225
               clear BK226
               clear BK243
               clear BK244
               clear HB
               have HO235 := n0_
               have HO238 := n1_
               have BK224 := n2_
               have BK225 := n3_
               have BK226 := n4_
               have BK243 := n5_
               have BK244 := n6_
               have HB := n7_
               clear n0_ n1_ n2_ n3_ n4_ n5_ n6_ n7_
               (try clear hb)
               (try clear hb2)
               (try clear hk)
               (try clear hi)
               refine hK.out _ _ ⟨(blk_cell BK243.out 0).trans rfl, (blk_cell BK243.out 1).trans rfl, (blk_cell BK243.out 2).trans rfl, (blk_cell BK243.out 3).trans rfl, (blk_cell BK243.out 4).trans rfl, (blk_cell BK243.out 5).trans rfl, (blk_cell BK244.out 0).trans rfl, (blk_cell BK244.out 1).trans rfl, (blk_cell BK244.out 2).trans rfl, (blk_cell BK244.out 3).trans rfl, (blk_cell BK244.out 4).trans rfl, (blk_cell BK244.out 5).trans rfl, (blk_cell BK244.out 6).trans rfl, (blk_cell BK244.out 7).trans rfl, (blk_cell BK224.out 0).trans rfl, (blk_cell BK224.out 1).trans rfl, (blk_cell BK224.out 2).trans rfl, (blk_cell BK224.out 3).trans rfl, (blk_cell BK224.out 4).trans rfl, (blk_cell BK224.out 5).trans rfl, (blk_cell BK225.out 0).trans rfl, (blk_cell BK225.out 1).trans rfl, (blk_cell BK225.out 2).trans rfl, (blk_cell BK225.out 3).trans rfl, (blk_cell BK225.out 4).trans rfl, (blk_cell BK225.out 5).trans rfl, (blk_cell BK225.out 6).trans rfl, (blk_cell BK225.out 7).trans rfl⟩ (fun hHeld => ?_)
               clear hK K
               refine norm_ (a' := ?_) ?_ ?_
               rotate_left
               · show Act.put _ (some 80) _ = _
                 simp only [Act.put, sT, sZ, sS, i64_w, i32_w]
                 rfl
               refine pure_ (i := 6) (N := some 81) (v := ?_) (a' := ?_) (tf 7 1) rfl rfl (any_of HT_.out (by kernel_rfl)) (fun _ _ _ h => h) (Or.inl ⟨by rfl, ?_⟩) ?_ ?_
               rotate_left
               · intro w'
                 go_simp
                 with_reducible rfl
               rotate_left
               · simp only [Act.put, sT, sZ, sS, i64_w, i32_w]
                 rfl
               refine pure_ (i := 7) (N := some 6) (v := ?_) (a' := ?_) (tf 8 0) rfl rfl (any_of HT_.out (by kernel_rfl)) (fun _ _ _ h => h) (Or.inl ⟨by rfl, ?_⟩) ?_ ?_
               rotate_left
               · intro w'
                 go_simp
                 with_reducible rfl
               rotate_left
               · simp only [Act.put, sT, sZ, sS, i64_w, i32_w]
                 rfl
               refine done_ (done_of HT_.out (by kernel_rfl)) ?_
               try go_wp2
               first | go_ret | refine ⟨_, results_tmp rfl _ _ _, ?_⟩
               exact ⟨by first | rfl | (simp [errW_none, errW_some] <;> rfl) | (simp [*, errW_none, errW_some] <;> rfl), by repeat (first | (with_reducible first | exact HB.out | apply blA | apply blN | apply blD | refine bS ?_ GE224.out | refine bS ?_ GE225.out | refine bS ?_ GE226.out | refine bS ?_ GE243.out | refine bS ?_ GE244.out) | exact HB.out)⟩
             · rw [if_neg c151] at H
               have c151b0 : (a0_0 == 7) = false := beq_eq_false_iff_ne.mpr c151
               have c151b1 : (a0_0 != 7) = true := bne_iff_ne.mpr c151
               replace H := Option.bind_eq_some_iff.mp H
               obtain ⟨t253, A1890, H⟩ := H
               replace H : ((cond_Holds.f kj5 a0_0 l0_1 l0_2 l0_3 a0_4 a0_5 a1_0 a1_1 l1_2 l1_3 a1_4 a1_5 a1_6 a1_7).bind fun t254 => (some (t253 == t254))) = some r := H
               have A189 := aM A1890
               clear A1890
               replace H := Option.bind_eq_some_iff.mp H
               obtain ⟨t254, A1900, H⟩ := H
               replace H : (some (t253 == t254)) = some r := H
               have A190 := aM A1900
               clear A1900
               obtain rfl := Option.some.inj H
               have hnb212 := NB224_225.out
               have hnc212 := NB225_224.out
               have hnb213 := NB224_226.out
               have hnc213 := NB226_224.out
               have hnb214 := NB224_243.out
               have hnc214 := NB243_224.out
               have hnb215 := NB224_244.out
               have hnc215 := NB244_224.out
               have hcz216_0 : w61.cell? ⟨gb224, 0, none⟩ = some (.int .i64 a0_0) := (blk_cell BK224.out 0).trans rfl
               have hcz216_1 : w61.cell? ⟨gb224, 1, none⟩ = some (.slice A0_1 l0_1.length c0_1) := (blk_cell BK224.out 1).trans rfl
               have hcz216_2 : w61.cell? ⟨gb224, 2, none⟩ = some (.slice A0_2 l0_2.length c0_2) := (blk_cell BK224.out 2).trans rfl
               have hcz216_3 : w61.cell? ⟨gb224, 3, none⟩ = some (.slice A0_3 l0_3.length c0_3) := (blk_cell BK224.out 3).trans rfl
               have hcz216_4 : w61.cell? ⟨gb224, 4, none⟩ = some (.int .u32 a0_4) := (blk_cell BK224.out 4).trans rfl
               have hcz216_5 : w61.cell? ⟨gb224, 5, none⟩ = some (.int .u32 a0_5) := (blk_cell BK224.out 5).trans rfl
               have hfz216_0 := bF BK224.out 0
               have hfz216_1 := bF BK224.out 1
               have hfz216_2 := bF BK224.out 2
               have hfz216_3 := bF BK224.out 3
               have hfz216_4 := bF BK224.out 4
               have hfz216_5 := bF BK224.out 5
               try go_wp2
               have n0_ := aM (Kd.R_drew HO235.out)
               have n1_ := aM (Kd.R_drew HO238.out)
               have n2_ := aM (blk_drew BK224.out)
               have n3_ := aM (blk_drew BK225.out)
               have n4_ := aM (blk_drew BK226.out)
               have n5_ := aM (blk_drew BK243.out)
               have n6_ := aM (blk_drew BK244.out)
               have n7_ := aM (below_drew1 HB.out)
               clear HO235
               clear HO238
               clear BK224
               clear BK225
               clear BK226
               clear BK243
               clear BK244
               clear HB
               have HO235 := n0_
               have HO238 := n1_
               have BK224 := n2_
               have BK225 := n3_
               have BK226 := n4_
               have BK243 := n5_
               have BK244 := n6_
               have HB := n7_
               clear n0_ n1_ n2_ n3_ n4_ n5_ n6_ n7_
               refine start_ (n := 20) (S := fun w' => w'.cell? ⟨gb224, 0, none⟩ = some (.int .i64 a0_0) ∧ w'.cell? ⟨gb224, 1, none⟩ = some (.slice A0_1 l0_1.length c0_1) ∧ w'.cell? ⟨gb224, 2, none⟩ = some (.slice A0_2 l0_2.length c0_2) ∧ w'.cell? ⟨gb224, 3, none⟩ = some (.slice A0_3 l0_3.length c0_3) ∧ w'.cell? ⟨gb224, 4, none⟩ = some (.int .u32 a0_4) ∧ w'.cell? ⟨gb224, 5, none⟩ = some (.int .u32 a0_5) ∧ w'.cell? ⟨gb225, 0, none⟩ = some (.int .u32 a1_0) ∧ w'.cell? ⟨gb225, 1, none⟩ = some (.int .i64 a1_1) ∧ w'.cell? ⟨gb225, 2, none⟩ = some (.slice A1_2 l1_2.length c1_2) ∧ w'.cell? ⟨gb225, 3, none⟩ = some (.slice A1_3 l1_3.length c1_3) ∧ w'.cell? ⟨gb225, 4, none⟩ = some (.int .u32 a1_4) ∧ w'.cell? ⟨gb225, 5, none⟩ = some (.int .u32 a1_5) ∧ w'.cell? ⟨gb225, 6, none⟩ = some (.int .i64 a1_6) ∧ w'.cell? ⟨gb225, 7, none⟩ = some (.int .u32 a1_7)) (ds := []) (tf 0 20) (by kernel_rfl) rfl rfl ⟨(blk_cell BK224.out 0).trans rfl, (blk_cell BK224.out 1).trans rfl, (blk_cell BK224.out 2).trans rfl, (blk_cell BK224.out 3).trans rfl, (blk_cell BK224.out 4).trans rfl, (blk_cell BK224.out 5).trans rfl, (blk_cell BK225.out 0).trans rfl, (blk_cell BK225.out 1).trans rfl, (blk_cell BK225.out 2).trans rfl, (blk_cell BK225.out 3).trans rfl, (blk_cell BK225.out 4).trans rfl, (blk_cell BK225.out 5).trans rfl, (blk_cell BK225.out 6).trans rfl, (blk_cell BK225.out 7).trans rfl⟩ (fun hHeld => ?_); refine with_tabW dragomanlaw11_CondOwn.tab7 dragomanlaw11_CondOwn.bits7 (fun HT_ HW_ => ?_)
               generalize w61.drew = w217 at HO235 HO238 BK224 BK225 BK226 BK243 BK244 HB hHeld ⊢
               refine pure_ (i := 0) (N := some 28) (v := ?_) (a' := ?_) (tf 1 19) rfl rfl (any_of HT_.out (by kernel_rfl)) (fun _ _ _ h => h) (Or.inl ⟨by rfl, ?_⟩) ?_ ?_
               rotate_left
               · intro w'
                 go_simp
                 with_reducible rfl
               rotate_left
               · simp only [Act.put, sT, sZ, sS, i64_w, i32_w]
                 rfl
               refine pure_ (i := 2) (N := some 30) (v := ?_) (a' := ?_) #[true, false, true, false, false, false, false, false, false, false, false, false, false, false, false, false, false, false, false, false] rfl rfl (any_of HT_.out (by kernel_rfl)) (fun _ _ _ h => h) (Or.inl ⟨by rfl, ?_⟩) ?_ ?_
               rotate_left
               · intro w'
                 go_simp
                 with_reducible rfl
               rotate_left
               · simp only [Act.put, sT, sZ, sS, i64_w, i32_w]
                 rfl
               refine pure_ (i := 4) (N := some 32) (v := ?_) (a' := ?_) #[true, false, true, false, true, false, false, false, false, false, false, false, false, false, false, false, false, false, false, false] rfl rfl (any_of HT_.out (by kernel_rfl)) (fun _ _ _ h => h) (Or.inl ⟨by rfl, ?_⟩) ?_ ?_
               rotate_left
               · intro w'
                 go_simp
                 with_reducible rfl
               rotate_left
               · simp only [Act.put, sT, sZ, sS, i64_w, i32_w]
                 rfl
               refine pure_ (i := 6) (N := some 34) (v := ?_) (a' := ?_) #[true, false, true, false, true, false, true, false, false, false, false, false, false, false, false, false, false, false, false, false] rfl rfl (any_of HT_.out (by kernel_rfl)) (fun _ _ _ h => h) (Or.inl ⟨by rfl, ?_⟩) ?_ ?_
               rotate_left
               · intro w'
                 go_simp
                 with_reducible rfl
               rotate_left
               · simp only [Act.put, sT, sZ, sS, i64_w, i32_w]
                 rfl
               refine pure_ (i := 8) (N := some 36) (v := ?_) (a' := ?_) #[true, false, true, false, true, false, true, false, true, false, false, false, false, false, false, false, false, false, false, false] rfl rfl (any_of HT_.out (by kernel_rfl)) (fun _ _ _ h => h) (Or.inl ⟨by rfl, ?_⟩) ?_ ?_
               rotate_left
               · intro w'
                 go_simp
                 with_reducible rfl
               rotate_left
               · simp only [Act.put, sT, sZ, sS, i64_w, i32_w]
                 rfl
               refine take_ (i := 1) (N := some 29) (v := ?_) (a' := ?_) #[true, true, true, false, true, false, true, false, true, false, false, false, false, false, false, false, false, false, false, false] rfl rfl (take_ofW HT_.out HW_.out (by kernel_rfl)) (fun _ _ _ h => h) (Or.inl ⟨by rfl, ?_⟩) hHeld ?_ ?_
               rotate_left
               · rintro w' ⟨s0, s1, s2, s3, s4, s5, s6, s7, s8, s9, s10, s11, s12, s13⟩
                 go_simp
                 with_reducible rfl
               rotate_left
               · simp only [Act.put, sT, sZ, sS, i64_w, i32_w]
                 rfl
               refine pure_ (i := 10) (N := some 38) (v := ?_) (a' := ?_) #[true, true, true, false, true, false, true, false, true, false, true, false, false, false, false, false, false, false, false, false] rfl rfl (any_of HT_.out (by kernel_rfl)) (fun _ _ _ h => h) (Or.inl ⟨by rfl, ?_⟩) ?_ ?_
               rotate_left
               · intro w'
                 go_simp
                 with_reducible rfl
               rotate_left
               · simp only [Act.put, sT, sZ, sS, i64_w, i32_w]
                 rfl
               refine take_ (i := 3) (N := some 31) (v := ?_) (a' := ?_) #[true, true, true, true, true, false, true, false, true, false, true, false, false, false, false, false, false, false, false, false] rfl rfl (take_ofW HT_.out HW_.out (by kernel_rfl)) (fun _ _ _ h => h) (Or.inl ⟨by rfl, ?_⟩) hHeld ?_ ?_
               rotate_left
               · rintro w' ⟨s0, s1, s2, s3, s4, s5, s6, s7, s8, s9, s10, s11, s12, s13⟩
                 go_simp
                 with_reducible rfl
               rotate_left
               · simp only [Act.put, sT, sZ, sS, i64_w, i32_w]
                 rfl
               refine take_ (i := 5) (N := some 33) (v := ?_) (a' := ?_) #[true, true, true, true, true, true, true, false, true, false, true, false, false, false, false, false, false, false, false, false] rfl rfl (take_ofW HT_.out HW_.out (by kernel_rfl)) (fun _ _ _ h => h) (Or.inl ⟨by rfl, ?_⟩) hHeld ?_ ?_
               rotate_left
               · rintro w' ⟨s0, s1, s2, s3, s4, s5, s6, s7, s8, s9, s10, s11, s12, s13⟩
                 go_simp
                 with_reducible rfl
               rotate_left
               · simp only [Act.put, sT, sZ, sS, i64_w, i32_w]
                 rfl
               refine take_ (i := 7) (N := some 35) (v := ?_) (a' := ?_) #[true, true, true, true, true, true, true, true, true, false, true, false, false, false, false, false, false, false, false, false] rfl rfl (take_ofW HT_.out HW_.out (by kernel_rfl)) (fun _ _ _ h => h) (Or.inl ⟨by rfl, ?_⟩) hHeld ?_ ?_
               rotate_left
               · rintro w' ⟨s0, s1, s2, s3, s4, s5, s6, s7, s8, s9, s10, s11, s12, s13⟩
                 go_simp
                 with_reducible rfl
               rotate_left
               · simp only [Act.put, sT, sZ, sS, i64_w, i32_w]
                 rfl
               refine take_ (i := 9) (N := some 37) (v := ?_) (a' := ?_) (tf 11 9) rfl rfl (take_ofW HT_.out HW_.out (by kernel_rfl)) (fun _ _ _ h => h) (Or.inl ⟨by rfl, ?_⟩) hHeld ?_ ?_
               rotate_left
               · rintro w' ⟨s0, s1, s2, s3, s4, s5, s6, s7, s8, s9, s10, s11, s12, s13⟩
                 go_simp
                 with_reducible rfl
               rotate_left
               · simp only [Act.put, sT, sZ, sS, i64_w, i32_w]
                 rfl
               refine one_ (i := 11) (N := none) (tf 12 8) rfl rfl (one_of HT_.out (by kernel_rfl)) (by decide) (fun K hK => ?_)
               have hs218 : w217.cell? ⟨gb243, 4, none⟩ = some (.int .u32 0) := (blk_cell BK243.out 4).trans rfl
               have hfs218 := bF BK243.out 4
               have hns218_0 := NB224_243.out
               have hns218_1 := NB225_243.out
               have hns218_2 := NB226_243.out
               have hns218_4 := NB244_243.out
               have hms218_0 := NB243_224.out
               have hms218_1 := NB243_225.out
               have hms218_2 := NB243_226.out
               have hms218_4 := NB243_244.out
               refine skip_ (w1 := ?_) (by rfl) rfl ?_ ?_
               rotate_left
               · go_simp
                 rfl
               refine hK.out _ _ ⟨((cell_far (p := ⟨gb243, _, none⟩) NB224_243.out _).trans (hHeld.1)), ((cell_far (p := ⟨gb243, _, none⟩) NB224_243.out _).trans (hHeld.2.1)), ((cell_far (p := ⟨gb243, _, none⟩) NB224_243.out _).trans (hHeld.2.2.1)), ((cell_far (p := ⟨gb243, _, none⟩) NB224_243.out _).trans (hHeld.2.2.2.1)), ((cell_far (p := ⟨gb243, _, none⟩) NB224_243.out _).trans (hHeld.2.2.2.2.1)), ((cell_far (p := ⟨gb243, _, none⟩) NB224_243.out _).trans (hHeld.2.2.2.2.2.1)), ((cell_far (p := ⟨gb243, _, none⟩) NB225_243.out _).trans (hHeld.2.2.2.2.2.2.1)), ((cell_far (p := ⟨gb243, _, none⟩) NB225_243.out _).trans (hHeld.2.2.2.2.2.2.2.1)), ((cell_far (p := ⟨gb243, _, none⟩) NB225_243.out _).trans (hHeld.2.2.2.2.2.2.2.2.1)), ((cell_far (p := ⟨gb243, _, none⟩) NB225_243.out _).trans (hHeld.2.2.2.2.2.2.2.2.2.1)), ((cell_far (p := ⟨gb243, _, none⟩) NB225_243.out _).trans (hHeld.2.2.2.2.2.2.2.2.2.2.1)), ((cell_far (p := ⟨gb243, _, none⟩) NB225_243.out _).trans (hHeld.2.2.2.2.2.2.2.2.2.2.2.1)), ((cell_far (p := ⟨gb243, _, none⟩) NB225_243.out _).trans (hHeld.2.2.2.2.2.2.2.2.2.2.2.2.1)), ((cell_far (p := ⟨gb243, _, none⟩) NB225_243.out _).trans (hHeld.2.2.2.2.2.2.2.2.2.2.2.2.2))⟩ (fun hHeld => ?_)
               clear hK K
               refine pure_ (i := 12) (N := some 39) (v := ?_) (a' := ?_) (tf 13 7) rfl rfl (any_of HT_.out (by kernel_rfl)) (fun _ _ _ h => h) (Or.inl ⟨by rfl, ?_⟩) ?_ ?_
               rotate_left
               · intro w'
                 go_simp
                 with_reducible rfl
               rotate_left
               · simp only [Act.put, sT, sZ, sS, i64_w, i32_w]
                 rfl
               refine one_ (i := 13) (N := none) (tf 14 6) rfl rfl (one_of HT_.out (by kernel_rfl)) (by decide) (fun K hK => ?_)
               have hs219 : w217.cell? ⟨gb243, 5, none⟩ = some (.int .u32 0) := (blk_cell BK243.out 5).trans rfl
               have hfs219 := bF BK243.out 5
               have hns219_0 := NB224_243.out
               have hns219_1 := NB225_243.out
               have hns219_2 := NB226_243.out
               have hns219_4 := NB244_243.out
               have hms219_0 := NB243_224.out
               have hms219_1 := NB243_225.out
               have hms219_2 := NB243_226.out
               have hms219_4 := NB243_244.out
               refine skip_ (w1 := ?_) (by rfl) rfl ?_ ?_
               rotate_left
               · go_simp
                 rfl
               refine hK.out _ _ ⟨((cell_far (p := ⟨gb243, _, none⟩) NB224_243.out _).trans (hHeld.1)), ((cell_far (p := ⟨gb243, _, none⟩) NB224_243.out _).trans (hHeld.2.1)), ((cell_far (p := ⟨gb243, _, none⟩) NB224_243.out _).trans (hHeld.2.2.1)), ((cell_far (p := ⟨gb243, _, none⟩) NB224_243.out _).trans (hHeld.2.2.2.1)), ((cell_far (p := ⟨gb243, _, none⟩) NB224_243.out _).trans (hHeld.2.2.2.2.1)), ((cell_far (p := ⟨gb243, _, none⟩) NB224_243.out _).trans (hHeld.2.2.2.2.2.1)), ((cell_far (p := ⟨gb243, _, none⟩) NB225_243.out _).trans (hHeld.2.2.2.2.2.2.1)), ((cell_far (p := ⟨gb243, _, none⟩) NB225_243.out _).trans (hHeld.2.2.2.2.2.2.2.1)), ((cell_far (p := ⟨gb243, _, none⟩) NB225_243.out _).trans (hHeld.2.2.2.2.2.2.2.2.1)), ((cell_far (p := ⟨gb243, _, none⟩) NB225_243.out _).trans (hHeld.2.2.2.2.2.2.2.2.2.1)), ((cell_far (p := ⟨gb243, _, none⟩) NB225_243.out _).trans (hHeld.2.2.2.2.2.2.2.2.2.2.1)), ((cell_far (p := ⟨gb243, _, none⟩) NB225_243.out _).trans (hHeld.2.2.2.2.2.2.2.2.2.2.2.1)), ((cell_far (p := ⟨gb243, _, none⟩) NB225_243.out _).trans (hHeld.2.2.2.2.2.2.2.2.2.2.2.2.1)), ((cell_far (p := ⟨gb243, _, none⟩) NB225_243.out _).trans (hHeld.2.2.2.2.2.2.2.2.2.2.2.2.2))⟩ (fun hHeld => ?_)
               clear hK K
               refine pure_ (i := 14) (N := some 40) (v := ?_) (a' := ?_) (tf 15 5) rfl rfl (any_of HT_.out (by kernel_rfl)) (fun _ _ _ h => h) (Or.inl ⟨by rfl, ?_⟩) ?_ ?_
               rotate_left
               · intro w'
                 go_simp
                 with_reducible rfl
               rotate_left
               · simp only [Act.put, sT, sZ, sS, i64_w, i32_w]
                 rfl
               refine one_ (i := 15) (N := none) (tf 16 4) rfl rfl (one_of HT_.out (by kernel_rfl)) (by decide) (fun K hK => ?_)
               have hs220 : w217.cell? ⟨gb244, 4, none⟩ = some (.int .u32 t239) := (blk_cell BK244.out 4).trans rfl
               have hfs220 := bF BK244.out 4
               have hns220_0 := NB224_244.out
               have hns220_1 := NB225_244.out
               have hns220_2 := NB226_244.out
               have hns220_3 := NB243_244.out
               have hms220_0 := NB244_224.out
               have hms220_1 := NB244_225.out
               have hms220_2 := NB244_226.out
               have hms220_3 := NB244_243.out
               refine skip_ (w1 := ?_) (by rfl) rfl ?_ ?_
               rotate_left
               · go_simp
                 rfl
               refine hK.out _ _ ⟨((cell_far (p := ⟨gb244, _, none⟩) NB224_244.out _).trans (hHeld.1)), ((cell_far (p := ⟨gb244, _, none⟩) NB224_244.out _).trans (hHeld.2.1)), ((cell_far (p := ⟨gb244, _, none⟩) NB224_244.out _).trans (hHeld.2.2.1)), ((cell_far (p := ⟨gb244, _, none⟩) NB224_244.out _).trans (hHeld.2.2.2.1)), ((cell_far (p := ⟨gb244, _, none⟩) NB224_244.out _).trans (hHeld.2.2.2.2.1)), ((cell_far (p := ⟨gb244, _, none⟩) NB224_244.out _).trans (hHeld.2.2.2.2.2.1)), ((cell_far (p := ⟨gb244, _, none⟩) NB225_244.out _).trans (hHeld.2.2.2.2.2.2.1)), ((cell_far (p := ⟨gb244, _, none⟩) NB225_244.out _).trans (hHeld.2.2.2.2.2.2.2.1)), ((cell_far (p := ⟨gb244, _, none⟩) NB225_244.out _).trans (hHeld.2.2.2.2.2.2.2.2.1)), ((cell_far (p := ⟨gb244, _, none⟩) NB225_244.out _).trans (hHeld.2.2.2.2.2.2.2.2.2.1)), ((cell_far (p := ⟨gb244, _, none⟩) NB225_244.out _).trans (hHeld.2.2.2.2.2.2.2.2.2.2.1)), ((cell_far (p := ⟨gb244, _, none⟩) NB225_244.out _).trans (hHeld.2.2.2.2.2.2.2.2.2.2.2.1)), ((cell_far (p := ⟨gb244, _, none⟩) NB225_244.out _).trans (hHeld.2.2.2.2.2.2.2.2.2.2.2.2.1)), ((cell_far (p := ⟨gb244, _, none⟩) NB225_244.out _).trans (hHeld.2.2.2.2.2.2.2.2.2.2.2.2.2))⟩ (fun hHeld => ?_)
               clear hK K
               refine pure_ (i := 16) (N := some 41) (v := ?_) (a' := ?_) (tf 17 3) rfl rfl (any_of HT_.out (by kernel_rfl)) (fun _ _ _ h => h) (Or.inl ⟨by rfl, ?_⟩) ?_ ?_
               rotate_left
               · intro w'
                 go_simp
                 with_reducible rfl
               rotate_left
               · simp only [Act.put, sT, sZ, sS, i64_w, i32_w]
                 rfl
               refine one_ (i := 17) (N := none) (tf 18 2) rfl rfl (one_of HT_.out (by kernel_rfl)) (by decide) (fun K hK => ?_)
               have hs221 : w217.cell? ⟨gb244, 5, none⟩ = some (.int .u32 t240) := (blk_cell BK244.out 5).trans rfl
               have hfs221 := bF BK244.out 5
               have hns221_0 := NB224_244.out
               have hns221_1 := NB225_244.out
               have hns221_2 := NB226_244.out
               have hns221_3 := NB243_244.out
               have hms221_0 := NB244_224.out
               have hms221_1 := NB244_225.out
               have hms221_2 := NB244_226.out
               have hms221_3 := NB244_243.out
               refine skip_ (w1 := ?_) (by rfl) rfl ?_ ?_
               rotate_left
               · go_simp
                 rfl
               refine hK.out _ _ ⟨((cell_far (p := ⟨gb244, _, none⟩) NB224_244.out _).trans (hHeld.1)), ((cell_far (p := ⟨gb244, _, none⟩) NB224_244.out _).trans (hHeld.2.1)), ((cell_far (p := ⟨gb244, _, none⟩) NB224_244.out _).trans (hHeld.2.2.1)), ((cell_far (p := ⟨gb244, _, none⟩) NB224_244.out _).trans (hHeld.2.2.2.1)), ((cell_far (p := ⟨gb244, _, none⟩) NB224_244.out _).trans (hHeld.2.2.2.2.1)), ((cell_far (p := ⟨gb244, _, none⟩) NB224_244.out _).trans (hHeld.2.2.2.2.2.1)), ((cell_far (p := ⟨gb244, _, none⟩) NB225_244.out _).trans (hHeld.2.2.2.2.2.2.1)), ((cell_far (p := ⟨gb244, _, none⟩) NB225_244.out _).trans (hHeld.2.2.2.2.2.2.2.1)), ((cell_far (p := ⟨gb244, _, none⟩) NB225_244.out _).trans (hHeld.2.2.2.2.2.2.2.2.1)), ((cell_far (p := ⟨gb244, _, none⟩) NB225_244.out _).trans (hHeld.2.2.2.2.2.2.2.2.2.1)), ((cell_far (p := ⟨gb244, _, none⟩) NB225_244.out _).trans (hHeld.2.2.2.2.2.2.2.2.2.2.1)), ((cell_far (p := ⟨gb244, _, none⟩) NB225_244.out _).trans (hHeld.2.2.2.2.2.2.2.2.2.2.2.1)), ((cell_far (p := ⟨gb244, _, none⟩) NB225_244.out _).trans (hHeld.2.2.2.2.2.2.2.2.2.2.2.2.1)), ((cell_far (p := ⟨gb244, _, none⟩) NB225_244.out _).trans (hHeld.2.2.2.2.2.2.2.2.2.2.2.2.2))⟩ (fun hHeld => ?_)
               clear hK K
               refine pure_ (i := 18) (N := some 42) (v := ?_) (a' := ?_) (tf 19 1) rfl rfl (any_of HT_.out (by kernel_rfl)) (fun _ _ _ h => h) (Or.inl ⟨by rfl, ?_⟩) ?_ ?_
               rotate_left
               · intro w'
                 go_simp
                 with_reducible rfl
               rotate_left
               · simp only [Act.put, sT, sZ, sS, i64_w, i32_w]
                 rfl
               refine one_ (i := 19) (N := none) (tf 20 0) rfl rfl (one_of HT_.out (by kernel_rfl)) (by decide) (fun K hK => ?_)
               have hs222 : w217.cell? ⟨gb244, 6, none⟩ = some (.int .i64 t241) := (blk_cell BK244.out 6).trans rfl
               have hfs222 := bF BK244.out 6
               have hns222_0 := NB224_244.out
               have hns222_1 := NB225_244.out
               have hns222_2 := NB226_244.out
               have hns222_3 := NB243_244.out
               have hms222_0 := NB244_224.out
               have hms222_1 := NB244_225.out
               have hms222_2 := NB244_226.out
               have hms222_3 := NB244_243.out
               refine skip_ (w1 := ?_) (by rfl) rfl ?_ ?_
               rotate_left
               · go_simp
                 rfl
               refine hK.out _ _ ⟨((cell_far (p := ⟨gb244, _, none⟩) NB224_244.out _).trans (hHeld.1)), ((cell_far (p := ⟨gb244, _, none⟩) NB224_244.out _).trans (hHeld.2.1)), ((cell_far (p := ⟨gb244, _, none⟩) NB224_244.out _).trans (hHeld.2.2.1)), ((cell_far (p := ⟨gb244, _, none⟩) NB224_244.out _).trans (hHeld.2.2.2.1)), ((cell_far (p := ⟨gb244, _, none⟩) NB224_244.out _).trans (hHeld.2.2.2.2.1)), ((cell_far (p := ⟨gb244, _, none⟩) NB224_244.out _).trans (hHeld.2.2.2.2.2.1)), ((cell_far (p := ⟨gb244, _, none⟩) NB225_244.out _).trans (hHeld.2.2.2.2.2.2.1)), ((cell_far (p := ⟨gb244, _, none⟩) NB225_244.out _).trans (hHeld.2.2.2.2.2.2.2.1)), ((cell_far (p := ⟨gb244, _, none⟩) NB225_244.out _).trans (hHeld.2.2.2.2.2.2.2.2.1)), ((cell_far (p := ⟨gb244, _, none⟩) NB225_244.out _).trans (hHeld.2.2.2.2.2.2.2.2.2.1)), ((cell_far (p := ⟨gb244, _, none⟩) NB225_244.out _).trans (hHeld.2.2.2.2.2.2.2.2.2.2.1)), ((cell_far (p := ⟨gb244, _, none⟩) NB225_244.out _).trans (hHeld.2.2.2.2.2.2.2.2.2.2.2.1)), ((cell_far (p := ⟨gb244, _, none⟩) NB225_244.out _).trans (hHeld.2.2.2.2.2.2.2.2.2.2.2.2.1)), ((cell_far (p := ⟨gb244, _, none⟩) NB225_244.out _).trans (hHeld.2.2.2.2.2.2.2.2.2.2.2.2.2))⟩ (fun hHeld => ?_)
               clear hK K
               refine done_ (done_of HT_.out (by kernel_rfl)) ?_
               try go_wp2
               have n0_ : Aside0 (Kd.R (Kd.int .u32) 36 (((((w217.setCell ⟨gb243, 4, none⟩ (.int .u32 a0_4)).setCell ⟨gb243, 5, none⟩ (.int .u32 a0_5)).setCell ⟨gb244, 4, none⟩ (.int .u32 a1_4)).setCell ⟨gb244, 5, none⟩ (.int .u32 a1_5)).setCell ⟨gb244, 6, none⟩ (.int .i64 a1_6)) w.heap.size (fun k_ => some k_ ≠ (v237 : Value).ownBlock) v234 t233) := ⟨by (with_reducible repeat (first | apply kA | apply kN | apply kD)); exact Kd.R_mono (Kd.R_far (p := ⟨gb244, 6, none⟩) (Kd.R_far (p := ⟨gb244, 5, none⟩) (Kd.R_far (p := ⟨gb244, 4, none⟩) (Kd.R_far (p := ⟨gb243, 5, none⟩) (Kd.R_far (p := ⟨gb243, 4, none⟩) (Kd.R_types (Kd.R_types HO235.out BK243.out (by decide)) BK244.out (by decide)) (fun _ hk => hk.1.2) (.int .u32 a0_4)) (fun _ hk => hk.1.2) (.int .u32 a0_5)) (fun _ hk => hk.2) (.int .u32 a1_4)) (fun _ hk => hk.2) (.int .u32 a1_5)) (fun _ hk => hk.2) (.int .i64 a1_6)) (fun _ hk => hk.1.1)⟩
               have n1_ : Aside0 (Kd.R (Kd.int .u32) 36 (((((w217.setCell ⟨gb243, 4, none⟩ (.int .u32 a0_4)).setCell ⟨gb243, 5, none⟩ (.int .u32 a0_5)).setCell ⟨gb244, 4, none⟩ (.int .u32 a1_4)).setCell ⟨gb244, 5, none⟩ (.int .u32 a1_5)).setCell ⟨gb244, 6, none⟩ (.int .i64 a1_6)) w.heap.size (fun k_ => some k_ ≠ (v234 : Value).ownBlock) v237 t236) := ⟨by (with_reducible repeat (first | apply kA | apply kN | apply kD)); exact Kd.R_mono (Kd.R_far (p := ⟨gb244, 6, none⟩) (Kd.R_far (p := ⟨gb244, 5, none⟩) (Kd.R_far (p := ⟨gb244, 4, none⟩) (Kd.R_far (p := ⟨gb243, 5, none⟩) (Kd.R_far (p := ⟨gb243, 4, none⟩) (Kd.R_types (Kd.R_types HO238.out BK243.out (by decide)) BK244.out (by decide)) (fun _ hk => hk.1.2) (.int .u32 a0_4)) (fun _ hk => hk.1.2) (.int .u32 a0_5)) (fun _ hk => hk.2) (.int .u32 a1_4)) (fun _ hk => hk.2) (.int .u32 a1_5)) (fun _ hk => hk.2) (.int .i64 a1_6)) (fun _ hk => hk.1.1)⟩
               have n2_ : Aside0 ((((((w217.setCell ⟨gb243, 4, none⟩ (.int .u32 a0_4)).setCell ⟨gb243, 5, none⟩ (.int .u32 a0_5)).setCell ⟨gb244, 4, none⟩ (.int .u32 a1_4)).setCell ⟨gb244, 5, none⟩ (.int .u32 a1_5)).setCell ⟨gb244, 6, none⟩ (.int .i64 a1_6)).heap[gb224]? = some (.cells #[.int .i64 a0_0, .slice A0_1 l0_1.length c0_1, .slice A0_2 l0_2.length c0_2, .slice A0_3 l0_3.length c0_3, .int .u32 a0_4, .int .u32 a0_5] 46 (0, 0))) := ⟨by (with_reducible repeat (first | apply bkN | apply bkD | apply bkA)); refine blk_far ?_ NB224_244.out _; (with_reducible repeat (first | apply bkN | apply bkD | apply bkA)); refine blk_far ?_ NB224_244.out _; (with_reducible repeat (first | apply bkN | apply bkD | apply bkA)); refine blk_far ?_ NB224_244.out _; (with_reducible repeat (first | apply bkN | apply bkD | apply bkA)); refine blk_far ?_ NB224_243.out _; (with_reducible repeat (first | apply bkN | apply bkD | apply bkA)); refine blk_far ?_ NB224_243.out _; (with_reducible repeat (first | apply bkN | apply bkD | apply bkA)); exact BK224.out⟩
               have n3_ : Aside0 ((((((w217.setCell ⟨gb243, 4, none⟩ (.int .u32 a0_4)).setCell ⟨gb243, 5, none⟩ (.int .u32 a0_5)).setCell ⟨gb244, 4, none⟩ (.int .u32 a1_4)).setCell ⟨gb244, 5, none⟩ (.int .u32 a1_5)).setCell ⟨gb244, 6, none⟩ (.int .i64 a1_6)).heap[gb225]? = some (.cells #[.int .u32 a1_0, .int .i64 a1_1, .slice A1_2 l1_2.length c1_2, .slice A1_3 l1_3.length c1_3, .int .u32 a1_4, .int .u32 a1_5, .int .i64 a1_6, .int .u32 a1_7] 50 (0, 0))) := ⟨by (with_reducible repeat (first | apply bkN | apply bkD | apply bkA)); refine blk_far ?_ NB225_244.out _; (with_reducible repeat (first | apply bkN | apply bkD | apply bkA)); refine blk_far ?_ NB225_244.out _; (with_reducible repeat (first | apply bkN | apply bkD | apply bkA)); refine blk_far ?_ NB225_244.out _; (with_reducible repeat (first | apply bkN | apply bkD | apply bkA)); refine blk_far ?_ NB225_243.out _; (with_reducible repeat (first | apply bkN | apply bkD | apply bkA)); refine blk_far ?_ NB225_243.out _; (with_reducible repeat (first | apply bkN | apply bkD | apply bkA)); exact BK225.out⟩
               have n4_ : Aside0 ((((((w217.setCell ⟨gb243, 4, none⟩ (.int .u32 a0_4)).setCell ⟨gb243, 5, none⟩ (.int .u32 a0_5)).setCell ⟨gb244, 4, none⟩ (.int .u32 a1_4)).setCell ⟨gb244, 5, none⟩ (.int .u32 a1_5)).setCell ⟨gb244, 6, none⟩ (.int .i64 a1_6)).heap[gb226]? = some (.cells #[.int .u32 a2_0, .int .i64 a2_1, .slice A2_2 l2_2.length c2_2, .slice A2_3 l2_3.length c2_3, .int .u32 a2_4, .int .u32 a2_5, .int .i64 a2_6, .int .u32 a2_7] 50 (0, 0))) := ⟨by (with_reducible repeat (first | apply bkN | apply bkD | apply bkA)); refine blk_far ?_ NB226_244.out _; (with_reducible repeat (first | apply bkN | apply bkD | apply bkA)); refine blk_far ?_ NB226_244.out _; (with_reducible repeat (first | apply bkN | apply bkD | apply bkA)); refine blk_far ?_ NB226_244.out _; (with_reducible repeat (first | apply bkN | apply bkD | apply bkA)); refine blk_far ?_ NB226_243.out _; (with_reducible repeat (first | apply bkN | apply bkD | apply bkA)); refine blk_far ?_ NB226_243.out _; (with_reducible repeat (first | apply bkN | apply bkD | apply bkA)); exact BK226.out⟩
               have n5_ : Aside0 ((((((w217.setCell ⟨gb243, 4, none⟩ (.int .u32 a0_4)).setCell ⟨gb243, 5, none⟩ (.int .u32 a0_5)).setCell ⟨gb244, 4, none⟩ (.int .u32 a1_4)).setCell ⟨gb244, 5, none⟩ (.int .u32 a1_5)).setCell ⟨gb244, 6, none⟩ (.int .i64 a1_6)).heap[gb243]? = some (.cells #[.int .i64 a0_0, .slice none 0 0, .slice none 0 0, .slice none 0 0, .int .u32 a0_4, .int .u32 a0_5] 46 (0, 0))) := ⟨by (with_reducible repeat (first | apply bkN | apply bkD | apply bkA)); refine blk_far ?_ NB243_244.out _; (with_reducible repeat (first | apply bkN | apply bkD | apply bkA)); refine blk_far ?_ NB243_244.out _; (with_reducible repeat (first | apply bkN | apply bkD | apply bkA)); refine blk_far ?_ NB243_244.out _; (with_reducible repeat (first | apply bkN | apply bkD | apply bkA)); refine blk_put (cs := #[.int .i64 a0_0, .slice none 0 0, .slice none 0 0, .slice none 0 0, .int .u32 a0_4, .int .u32 0]) ?_ 5 _ rfl; (with_reducible repeat (first | apply bkN | apply bkD | apply bkA)); refine blk_put (cs := #[.int .i64 a0_0, .slice none 0 0, .slice none 0 0, .slice none 0 0, .int .u32 0, .int .u32 0]) ?_ 4 _ rfl; (with_reducible repeat (first | apply bkN | apply bkD | apply bkA)); exact BK243.out⟩
               have n6_ : Aside0 ((((((w217.setCell ⟨gb243, 4, none⟩ (.int .u32 a0_4)).setCell ⟨gb243, 5, none⟩ (.int .u32 a0_5)).setCell ⟨gb244, 4, none⟩ (.int .u32 a1_4)).setCell ⟨gb244, 5, none⟩ (.int .u32 a1_5)).setCell ⟨gb244, 6, none⟩ (.int .i64 a1_6)).heap[gb244]? = some (.cells #[.int .u32 t231, .int .i64 t232, v234, v237, .int .u32 a1_4, .int .u32 a1_5, .int .i64 a1_6, .int .u32 t242] 50 (0, 0))) := ⟨by (with_reducible repeat (first | apply bkN | apply bkD | apply bkA)); refine blk_put (cs := #[.int .u32 t231, .int .i64 t232, v234, v237, .int .u32 a1_4, .int .u32 a1_5, .int .i64 t241, .int .u32 t242]) ?_ 6 _ rfl; (with_reducible repeat (first | apply bkN | apply bkD | apply bkA)); refine blk_put (cs := #[.int .u32 t231, .int .i64 t232, v234, v237, .int .u32 a1_4, .int .u32 t240, .int .i64 t241, .int .u32 t242]) ?_ 5 _ rfl; (with_reducible repeat (first | apply bkN | apply bkD | apply bkA)); refine blk_put (cs := #[.int .u32 t231, .int .i64 t232, v234, v237, .int .u32 t239, .int .u32 t240, .int .i64 t241, .int .u32 t242]) ?_ 4 _ rfl; (with_reducible repeat (first | apply bkN | apply bkD | apply bkA)); refine blk_far ?_ NB244_243.out _; (with_reducible repeat (first | apply bkN | apply bkD | apply bkA)); refine blk_far ?_ NB244_243.out _; (with_reducible repeat (first | apply bkN | apply bkD | apply bkA)); exact BK244.out⟩
               have n7_ : Aside0 (Below w.heap.size w (((((w217.setCell ⟨gb243, 4, none⟩ (.int .u32 a0_4)).setCell ⟨gb243, 5, none⟩ (.int .u32 a0_5)).setCell ⟨gb244, 4, none⟩ (.int .u32 a1_4)).setCell ⟨gb244, 5, none⟩ (.int .u32 a1_5)).setCell ⟨gb244, 6, none⟩ (.int .i64 a1_6))) := ⟨by repeat (first | (with_reducible first | exact HB.out | apply blA | apply blN | apply blD | refine bS ?_ GE224.out | refine bS ?_ GE225.out | refine bS ?_ GE226.out | refine bS ?_ GE243.out | refine bS ?_ GE244.out) | exact HB.out)⟩
               (try clear HO235)
               (try clear HO238)
               (try clear BK224)
               (try clear BK225)
               (try clear BK226)
               (try clear BK243)
               (try clear BK244)
               (try clear HB)
               generalize (((((w217.setCell ⟨gb243, 4, none⟩ (.int .u32 a0_4)).setCell ⟨gb243, 5, none⟩ (.int .u32 a0_5)).setCell ⟨gb244, 4, none⟩ (.int .u32 a1_4)).setCell ⟨gb244, 5, none⟩ (.int .u32 a1_5)).setCell ⟨gb244, 6, none⟩ (.int .i64 a1_6)) = w223 at n0_ n1_ n2_ n3_ n4_ n5_ n6_ n7_ ⊢
               have HO235 := n0_
               have HO238 := n1_
               have BK224 := n2_
               have BK225 := n3_
               have BK226 := n4_
               have BK243 := n5_
               have BK244 := n6_
               have HB := n7_
               clear n0_ n1_ n2_ n3_ n4_ n5_ n6_ n7_
               have n0_ := aM (Kd.R_drew HO235.out)
               have n1_ := aM (Kd.R_drew HO238.out)
               have n2_ := aM (blk_drew BK224.out)
               have n3_ := aM (blk_drew BK225.out)
               have n4_ := aM (blk_drew BK226.out)
               have n5_ := aM (blk_drew BK243.out)
               have n6_ := aM (blk_drew BK244.out)
               have n7_ := aM (below_drew1 HB.out)
               clear HO235
               clear HO238
               clear BK224
               clear BK225
               clear BK226
               clear BK243
               clear BK244
               clear HB
               have HO235 := n0_
               have HO238 := n1_
               have BK224 := n2_
               have BK225 := n3_
               have BK226 := n4_
               have BK243 := n5_
               have BK244 := n6_
               have HB := n7_
               clear n0_ n1_ n2_ n3_ n4_ n5_ n6_ n7_
               obtain ⟨Ao225, co225, eo225⟩ := Kd.R_slice HO235.out
               (first | subst eo225 | (injection eo225 with f1_ f2_ f3_; have f4_ := f1_.symm; have f5_ := f3_.symm; clear f1_ f2_ f3_; subst f4_; subst f5_))
               obtain ⟨Ao226, co226, eo226⟩ := Kd.R_slice HO238.out
               (first | subst eo226 | (injection eo226 with f1_ f2_ f3_; have f4_ := f1_.symm; have f5_ := f3_.symm; clear f1_ f2_ f3_; subst f4_; subst f5_))
               refine start_ (n := 8) (S := fun w' => w'.cell? ⟨gb243, 0, none⟩ = some (.int .i64 a0_0) ∧ w'.cell? ⟨gb243, 1, none⟩ = some (.slice none 0 0) ∧ w'.cell? ⟨gb243, 2, none⟩ = some (.slice none 0 0) ∧ w'.cell? ⟨gb243, 3, none⟩ = some (.slice none 0 0) ∧ w'.cell? ⟨gb243, 4, none⟩ = some (.int .u32 a0_4) ∧ w'.cell? ⟨gb243, 5, none⟩ = some (.int .u32 a0_5) ∧ w'.cell? ⟨gb244, 0, none⟩ = some (.int .u32 t231) ∧ w'.cell? ⟨gb244, 1, none⟩ = some (.int .i64 t232) ∧ w'.cell? ⟨gb244, 2, none⟩ = some (.slice Ao225 t233.length co225) ∧ w'.cell? ⟨gb244, 3, none⟩ = some (.slice Ao226 t236.length co226) ∧ w'.cell? ⟨gb244, 4, none⟩ = some (.int .u32 a1_4) ∧ w'.cell? ⟨gb244, 5, none⟩ = some (.int .u32 a1_5) ∧ w'.cell? ⟨gb244, 6, none⟩ = some (.int .i64 a1_6) ∧ w'.cell? ⟨gb244, 7, none⟩ = some (.int .u32 t242) ∧ w'.cell? ⟨gb224, 0, none⟩ = some (.int .i64 a0_0) ∧ w'.cell? ⟨gb224, 1, none⟩ = some (.slice A0_1 l0_1.length c0_1) ∧ w'.cell? ⟨gb224, 2, none⟩ = some (.slice A0_2 l0_2.length c0_2) ∧ w'.cell? ⟨gb224, 3, none⟩ = some (.slice A0_3 l0_3.length c0_3) ∧ w'.cell? ⟨gb224, 4, none⟩ = some (.int .u32 a0_4) ∧ w'.cell? ⟨gb224, 5, none⟩ = some (.int .u32 a0_5) ∧ w'.cell? ⟨gb225, 0, none⟩ = some (.int .u32 a1_0) ∧ w'.cell? ⟨gb225, 1, none⟩ = some (.int .i64 a1_1) ∧ w'.cell? ⟨gb225, 2, none⟩ = some (.slice A1_2 l1_2.length c1_2) ∧ w'.cell? ⟨gb225, 3, none⟩ = some (.slice A1_3 l1_3.length c1_3) ∧ w'.cell? ⟨gb225, 4, none⟩ = some (.int .u32 a1_4) ∧ w'.cell? ⟨gb225, 5, none⟩ = some (.int .u32 a1_5) ∧ w'.cell? ⟨gb225, 6, none⟩ = some (.int .i64 a1_6) ∧ w'.cell? ⟨gb225, 7, none⟩ = some (.int .u32 a1_7)) (ds := []) (tf 0 8) (by kernel_rfl) rfl rfl ⟨(blk_cell BK243.out 0).trans rfl, (blk_cell BK243.out 1).trans rfl, (blk_cell BK243.out 2).trans rfl, (blk_cell BK243.out 3).trans rfl, (blk_cell BK243.out 4).trans rfl, (blk_cell BK243.out 5).trans rfl, (blk_cell BK244.out 0).trans rfl, (blk_cell BK244.out 1).trans rfl, (blk_cell BK244.out 2).trans rfl, (blk_cell BK244.out 3).trans rfl, (blk_cell BK244.out 4).trans rfl, (blk_cell BK244.out 5).trans rfl, (blk_cell BK244.out 6).trans rfl, (blk_cell BK244.out 7).trans rfl, (blk_cell BK224.out 0).trans rfl, (blk_cell BK224.out 1).trans rfl, (blk_cell BK224.out 2).trans rfl, (blk_cell BK224.out 3).trans rfl, (blk_cell BK224.out 4).trans rfl, (blk_cell BK224.out 5).trans rfl, (blk_cell BK225.out 0).trans rfl, (blk_cell BK225.out 1).trans rfl, (blk_cell BK225.out 2).trans rfl, (blk_cell BK225.out 3).trans rfl, (blk_cell BK225.out 4).trans rfl, (blk_cell BK225.out 5).trans rfl, (blk_cell BK225.out 6).trans rfl, (blk_cell BK225.out 7).trans rfl⟩ (fun hHeld => ?_); refine with_tabW dragomanlaw11_CondOwn.tab16 dragomanlaw11_CondOwn.bits16 (fun HT_ HW_ => ?_)
               generalize w223.drew = w224 at HO235 HO238 BK224 BK225 BK226 BK243 BK244 HB hHeld ⊢
               refine take_ (i := 0) (N := some 75) (v := ?_) (a' := ?_) (tf 1 7) rfl rfl (take_ofW HT_.out HW_.out (by kernel_rfl)) (fun _ _ _ h => h) (Or.inl ⟨by rfl, ?_⟩) hHeld ?_ ?_
               rotate_left
               · rintro w' ⟨s0, s1, s2, s3, s4, s5, s6, s7, s8, s9, s10, s11, s12, s13, s14, s15, s16, s17, s18, s19, s20, s21, s22, s23, s24, s25, s26, s27⟩
                 go_simp
                 with_reducible rfl
               rotate_left
               · simp only [Act.put, sT, sZ, sS, i64_w, i32_w]
                 rfl
               refine take_ (i := 1) (N := some 76) (v := ?_) (a' := ?_) (tf 2 6) rfl rfl (take_ofW HT_.out HW_.out (by kernel_rfl)) (fun _ _ _ h => h) (Or.inl ⟨by rfl, ?_⟩) hHeld ?_ ?_
               rotate_left
               · rintro w' ⟨s0, s1, s2, s3, s4, s5, s6, s7, s8, s9, s10, s11, s12, s13, s14, s15, s16, s17, s18, s19, s20, s21, s22, s23, s24, s25, s26, s27⟩
                 go_simp
                 with_reducible rfl
               rotate_left
               · simp only [Act.put, sT, sZ, sS, i64_w, i32_w]
                 rfl
               refine take_ (i := 3) (N := some 78) (v := ?_) (a' := ?_) #[true, true, false, true, false, false, false, false] rfl rfl (take_ofW HT_.out HW_.out (by kernel_rfl)) (fun _ _ _ h => h) (Or.inl ⟨by rfl, ?_⟩) hHeld ?_ ?_
               rotate_left
               · rintro w' ⟨s0, s1, s2, s3, s4, s5, s6, s7, s8, s9, s10, s11, s12, s13, s14, s15, s16, s17, s18, s19, s20, s21, s22, s23, s24, s25, s26, s27⟩
                 go_simp
                 with_reducible rfl
               rotate_left
               · simp only [Act.put, sT, sZ, sS, i64_w, i32_w]
                 rfl
               refine take_ (i := 4) (N := some 79) (v := ?_) (a' := ?_) #[true, true, false, true, true, false, false, false] rfl rfl (take_ofW HT_.out HW_.out (by kernel_rfl)) (fun _ _ _ h => h) (Or.inl ⟨by rfl, ?_⟩) hHeld ?_ ?_
               rotate_left
               · rintro w' ⟨s0, s1, s2, s3, s4, s5, s6, s7, s8, s9, s10, s11, s12, s13, s14, s15, s16, s17, s18, s19, s20, s21, s22, s23, s24, s25, s26, s27⟩
                 go_simp
                 with_reducible rfl
               rotate_left
               · simp only [Act.put, sT, sZ, sS, i64_w, i32_w]
                 rfl
               refine one_ (i := 2) (N := some 77) (tf 5 3) rfl rfl (one_of HT_.out (by kernel_rfl)) (by decide) (fun K hK => ?_)
               refine goes_ Try.func34 (by kernel_rfl) rfl #[.agg #[.int .i64 a0_0, .slice none 0 0, .slice none 0 0, .slice none 0 0, .int .u32 a0_4, .int .u32 a0_5], .agg #[.int .u32 t231, .int .i64 t232, .slice Ao225 t233.length co225, .slice Ao226 t236.length co226, .int .u32 a1_4, .int .u32 a1_5, .int .i64 a1_6, .int .u32 t242]] (by rfl) rfl rfl (by (try simp only [List.map_toArray, List.map_cons, List.map_nil]); first | done | rfl | (simp only [List.length_drop, List.length_take]; rfl)) ?_
               refine (cond_Holds.calls kj5 a0_0 _ _ ([] : List (S83)) _ _ ([] : List (S61)) _ _ ([] : List (S64)) a0_4 a0_5 t231 t232 _ _ t233 _ _ t236 a1_4 a1_5 a1_6 t242 t253 _ ?side1 ?side2 ?side3 ?side4 ?side5 ?side6 ?side7 ?side8 ?side9 ?side10 A189.out).mono ?_
               (case side1 => exact Kd.C_nil _ _)
               (case side2 => exact Nat.le_refl _)
               (case side3 => exact Kd.C_nil _ _)
               (case side4 => exact Nat.le_refl _)
               (case side5 => exact Kd.C_nil _ _)
               (case side6 => exact Nat.le_refl _)
               (case side7 => repeat (first | exact (Kd.R_reads' HO235.out).2.2 | (with_reducible refine Kd.C_alloc ?_ _) | (with_reducible refine Kd.C_drewN ?_ _) | (with_reducible refine Kd.C_drew ?_)))
               (case side8 => exact (Kd.R_reads' HO235.out).2.1)
               (case side9 => repeat (first | exact (Kd.R_reads' HO238.out).2.2 | (with_reducible refine Kd.C_alloc ?_ _) | (with_reducible refine Kd.C_drewN ?_ _) | (with_reducible refine Kd.C_drew ?_)))
               (case side10 => exact (Kd.R_reads' HO238.out).2.1)
               rintro e w227 ⟨rfl, hb⟩
               refine ⟨_, rfl, ?_⟩
               have n0_ := aM (Kd.R_below (uk_ HO235.out) hb)
               have n1_ := aM (Kd.R_below (uk_ HO238.out) hb)
               have n2_ := aM (blk_below (g := gb224) (o := .cells #[.int .i64 a0_0, .slice A0_1 l0_1.length c0_1, .slice A0_2 l0_2.length c0_2, .slice A0_3 l0_3.length c0_3, .int .u32 a0_4, .int .u32 a0_5] 46 (0, 0)) (up_ BK224.out) hb)
               have n3_ := aM (blk_below (g := gb225) (o := .cells #[.int .u32 a1_0, .int .i64 a1_1, .slice A1_2 l1_2.length c1_2, .slice A1_3 l1_3.length c1_3, .int .u32 a1_4, .int .u32 a1_5, .int .i64 a1_6, .int .u32 a1_7] 50 (0, 0)) (up_ BK225.out) hb)
               have n4_ := aM (blk_below (g := gb226) (o := .cells #[.int .u32 a2_0, .int .i64 a2_1, .slice A2_2 l2_2.length c2_2, .slice A2_3 l2_3.length c2_3, .int .u32 a2_4, .int .u32 a2_5, .int .i64 a2_6, .int .u32 a2_7] 50 (0, 0)) (up_ BK226.out) hb)
               have n5_ := aM (blk_below (g := gb243) (o := .cells #[.int .i64 a0_0, .slice none 0 0, .slice none 0 0, .slice none 0 0, .int .u32 a0_4, .int .u32 a0_5] 46 (0, 0)) (up_ BK243.out) hb)
               have n6_ := aM (blk_below (g := gb244) (o := .cells #[.int .u32 t231, .int .i64 t232, .slice Ao225 t233.length co225, .slice Ao226 t236.length co226, .int .u32 a1_4, .int .u32 a1_5, .int .i64 a1_6, .int .u32 t242] 50 (0, 0)) (up_ BK244.out) hb)
               have n7_ := aM (below_step (bw_ HB.out) hb)
               clear HO235
               clear HO238
               clear BK224
               clear BK225
               clear BK226
               clear BK243
               clear BK244
               clear HB
               have HO235 := n0_
               have HO238 := n1_
               have BK224 := n2_
               have BK225 := n3_
               have BK226 := n4_
               have BK243 := n5_
               have BK244 := n6_
               have HB := n7_
               clear n0_ n1_ n2_ n3_ n4_ n5_ n6_ n7_
               (try clear hb)
               (try clear hb2)
               (try clear hk)
               (try clear hi)
               refine hK.out _ _ ⟨(blk_cell BK243.out 0).trans rfl, (blk_cell BK243.out 1).trans rfl, (blk_cell BK243.out 2).trans rfl, (blk_cell BK243.out 3).trans rfl, (blk_cell BK243.out 4).trans rfl, (blk_cell BK243.out 5).trans rfl, (blk_cell BK244.out 0).trans rfl, (blk_cell BK244.out 1).trans rfl, (blk_cell BK244.out 2).trans rfl, (blk_cell BK244.out 3).trans rfl, (blk_cell BK244.out 4).trans rfl, (blk_cell BK244.out 5).trans rfl, (blk_cell BK244.out 6).trans rfl, (blk_cell BK244.out 7).trans rfl, (blk_cell BK224.out 0).trans rfl, (blk_cell BK224.out 1).trans rfl, (blk_cell BK224.out 2).trans rfl, (blk_cell BK224.out 3).trans rfl, (blk_cell BK224.out 4).trans rfl, (blk_cell BK224.out 5).trans rfl, (blk_cell BK225.out 0).trans rfl, (blk_cell BK225.out 1).trans rfl, (blk_cell BK225.out 2).trans rfl, (blk_cell BK225.out 3).trans rfl, (blk_cell BK225.out 4).trans rfl, (blk_cell BK225.out 5).trans rfl, (blk_cell BK225.out 6).trans rfl, (blk_cell BK225.out 7).trans rfl⟩ (fun hHeld => ?_)
               clear hK K
               refine norm_ (a' := ?_) ?_ ?_
               rotate_left
               · show Act.put _ (some 77) _ = _
                 simp only [Act.put, sT, sZ, sS, i64_w, i32_w]
                 rfl
               refine one_ (i := 5) (N := some 80) (tf 6 2) rfl rfl (one_of HT_.out (by kernel_rfl)) (by decide) (fun K hK => ?_)
               refine goes_ Try.func34 (by kernel_rfl) rfl #[.agg #[.int .i64 a0_0, .slice A0_1 l0_1.length c0_1, .slice A0_2 l0_2.length c0_2, .slice A0_3 l0_3.length c0_3, .int .u32 a0_4, .int .u32 a0_5], .agg #[.int .u32 a1_0, .int .i64 a1_1, .slice A1_2 l1_2.length c1_2, .slice A1_3 l1_3.length c1_3, .int .u32 a1_4, .int .u32 a1_5, .int .i64 a1_6, .int .u32 a1_7]] (by rfl) rfl rfl (by (try simp only [List.map_toArray, List.map_cons, List.map_nil]); first | done | rfl | (simp only [List.length_drop, List.length_take]; rfl)) ?_
               with_reducible refine (cond_Holds.calls kj5 a0_0 _ _ l0_1 _ _ l0_2 _ _ l0_3 a0_4 a0_5 a1_0 a1_1 _ _ l1_2 _ _ l1_3 a1_4 a1_5 a1_6 a1_7 t254 _ ?side1 ?side2 ?side3 ?side4 ?side5 ?side6 ?side7 ?side8 ?side9 ?side10 A190.out).mono ?_
               (case side1 => repeat (first | exact (Kd.C_below HR0_1.out HB.out) | (with_reducible refine Kd.C_alloc ?_ _) | (with_reducible refine Kd.C_drewN ?_ _) | (with_reducible refine Kd.C_drew ?_)))
               (case side2 => exact HC0_1.out)
               (case side3 => repeat (first | exact (Kd.C_below HR0_2.out HB.out) | (with_reducible refine Kd.C_alloc ?_ _) | (with_reducible refine Kd.C_drewN ?_ _) | (with_reducible refine Kd.C_drew ?_)))
               (case side4 => exact HC0_2.out)
               (case side5 => repeat (first | exact (Kd.C_below HR0_3.out HB.out) | (with_reducible refine Kd.C_alloc ?_ _) | (with_reducible refine Kd.C_drewN ?_ _) | (with_reducible refine Kd.C_drew ?_)))
               (case side6 => exact HC0_3.out)
               (case side7 => repeat (first | exact (Kd.C_below HR1_2.out HB.out) | (with_reducible refine Kd.C_alloc ?_ _) | (with_reducible refine Kd.C_drewN ?_ _) | (with_reducible refine Kd.C_drew ?_)))
               (case side8 => exact HC1_2.out)
               (case side9 => repeat (first | exact (Kd.C_below HR1_3.out HB.out) | (with_reducible refine Kd.C_alloc ?_ _) | (with_reducible refine Kd.C_drewN ?_ _) | (with_reducible refine Kd.C_drew ?_)))
               (case side10 => exact HC1_3.out)
               rintro e w228 ⟨rfl, hb⟩
               refine ⟨_, rfl, ?_⟩
               have n0_ := aM (Kd.R_below (uk_ HO235.out) hb)
               have n1_ := aM (Kd.R_below (uk_ HO238.out) hb)
               have n2_ := aM (blk_below (g := gb224) (o := .cells #[.int .i64 a0_0, .slice A0_1 l0_1.length c0_1, .slice A0_2 l0_2.length c0_2, .slice A0_3 l0_3.length c0_3, .int .u32 a0_4, .int .u32 a0_5] 46 (0, 0)) (up_ BK224.out) hb)
               have n3_ := aM (blk_below (g := gb225) (o := .cells #[.int .u32 a1_0, .int .i64 a1_1, .slice A1_2 l1_2.length c1_2, .slice A1_3 l1_3.length c1_3, .int .u32 a1_4, .int .u32 a1_5, .int .i64 a1_6, .int .u32 a1_7] 50 (0, 0)) (up_ BK225.out) hb)
               have n4_ := aM (blk_below (g := gb226) (o := .cells #[.int .u32 a2_0, .int .i64 a2_1, .slice A2_2 l2_2.length c2_2, .slice A2_3 l2_3.length c2_3, .int .u32 a2_4, .int .u32 a2_5, .int .i64 a2_6, .int .u32 a2_7] 50 (0, 0)) (up_ BK226.out) hb)
               have n5_ := aM (blk_below (g := gb243) (o := .cells #[.int .i64 a0_0, .slice none 0 0, .slice none 0 0, .slice none 0 0, .int .u32 a0_4, .int .u32 a0_5] 46 (0, 0)) (up_ BK243.out) hb)
               have n6_ := aM (blk_below (g := gb244) (o := .cells #[.int .u32 t231, .int .i64 t232, .slice Ao225 t233.length co225, .slice Ao226 t236.length co226, .int .u32 a1_4, .int .u32 a1_5, .int .i64 a1_6, .int .u32 t242] 50 (0, 0)) (up_ BK244.out) hb)
               have n7_ := aM (below_step (bw_ HB.out) hb)
               clear HO235
               clear HO238
               clear BK224
               clear BK225
               clear BK226
               clear BK243
               clear BK244
               clear HB
               have HO235 := n0_
               have HO238 := n1_
               have BK224 := n2_
               have BK225 := n3_
               have BK226 := n4_
               have BK243 := n5_
               have BK244 := n6_
               have HB := n7_
               clear n0_ n1_ n2_ n3_ n4_ n5_ n6_ n7_
               (try clear hb)
               (try clear hb2)
               (try clear hk)
               (try clear hi)
               refine hK.out _ _ ⟨(blk_cell BK243.out 0).trans rfl, (blk_cell BK243.out 1).trans rfl, (blk_cell BK243.out 2).trans rfl, (blk_cell BK243.out 3).trans rfl, (blk_cell BK243.out 4).trans rfl, (blk_cell BK243.out 5).trans rfl, (blk_cell BK244.out 0).trans rfl, (blk_cell BK244.out 1).trans rfl, (blk_cell BK244.out 2).trans rfl, (blk_cell BK244.out 3).trans rfl, (blk_cell BK244.out 4).trans rfl, (blk_cell BK244.out 5).trans rfl, (blk_cell BK244.out 6).trans rfl, (blk_cell BK244.out 7).trans rfl, (blk_cell BK224.out 0).trans rfl, (blk_cell BK224.out 1).trans rfl, (blk_cell BK224.out 2).trans rfl, (blk_cell BK224.out 3).trans rfl, (blk_cell BK224.out 4).trans rfl, (blk_cell BK224.out 5).trans rfl, (blk_cell BK225.out 0).trans rfl, (blk_cell BK225.out 1).trans rfl, (blk_cell BK225.out 2).trans rfl, (blk_cell BK225.out 3).trans rfl, (blk_cell BK225.out 4).trans rfl, (blk_cell BK225.out 5).trans rfl, (blk_cell BK225.out 6).trans rfl, (blk_cell BK225.out 7).trans rfl⟩ (fun hHeld => ?_)
               clear hK K
               refine norm_ (a' := ?_) ?_ ?_
               rotate_left
               · show Act.put _ (some 80) _ = _
                 simp only [Act.put, sT, sZ, sS, i64_w, i32_w]
                 rfl
               refine pure_ (i := 6) (N := some 81) (v := ?_) (a' := ?_) (tf 7 1) rfl rfl (any_of HT_.out (by kernel_rfl)) (fun _ _ _ h => h) (Or.inl ⟨by rfl, ?_⟩) ?_ ?_
               rotate_left
               · intro w'
                 go_simp
                 with_reducible rfl
               rotate_left
               · simp only [Act.put, sT, sZ, sS, i64_w, i32_w]
                 rfl
               refine pure_ (i := 7) (N := some 6) (v := ?_) (a' := ?_) (tf 8 0) rfl rfl (any_of HT_.out (by kernel_rfl)) (fun _ _ _ h => h) (Or.inl ⟨by rfl, ?_⟩) ?_ ?_
               rotate_left
               · intro w'
                 go_simp
                 with_reducible rfl
               rotate_left
               · simp only [Act.put, sT, sZ, sS, i64_w, i32_w]
                 rfl
               refine done_ (done_of HT_.out (by kernel_rfl)) ?_
               try go_wp2
               first | go_ret | refine ⟨_, results_tmp rfl _ _ _, ?_⟩
               exact ⟨by first | rfl | (simp [errW_none, errW_some] <;> rfl) | (simp [*, errW_none, errW_some] <;> rfl), by repeat (first | (with_reducible first | exact HB.out | apply blA | apply blN | apply blD | refine bS ?_ GE224.out | refine bS ?_ GE225.out | refine bS ?_ GE226.out | refine bS ?_ GE243.out | refine bS ?_ GE244.out) | exact HB.out)⟩
 · replace c5 := Bool.eq_false_iff.mpr c5
   subst c5
   have H1 : (none) = some r := by rw [if_neg (show ¬ (false = true) by decide)] at H; exact H
   clear H
   have H := H1
   clear H1
   exact absurd H (by simp)
end Go.Proofs.Ytlkjfjlmjgkheaa.H
