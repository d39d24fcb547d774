import Derived.Test.YtlkjfjlmjgkheaaHx0
namespace Go.Proofs.Ytlkjfjlmjgkheaa.H
open Go.RowKit Go.Proofs.YtlkjfjlmjgkheaaW.PrintWords Go.Proofs.YtlkjfjlmjgkheaaW.PrintLast Go.Proofs.YtlkjfjlmjgkheaaW.PrintMore
attribute [local go_sem] max2_int min2_int max_two min_two max_three min_three max_four min_four
set_option linter.unusedVariables false
set_option linter.unusedSimpArgs false
def dragomanref11_CopyComms.l0 : Nat → List (S64) → List (S64) → Int → Int → Option ((List (S64)))
 | 0, _, _, _, _ => none
 | k + 1, x3, x6, x7, x8 => if x8 < x7 then (if 0 ≤ x8 then (if x8 < (x6.length : Int) then ((some (([] : List (S76)) : List (S76))).bind fun y310 => (if y310.length + ((rd_T64 x6 x8).f1).length < 17592186044416 then (if x3.length < 4398046511104 then (dragomanref11_CopyComms.l0 k (x3 ++ [(⟨(rd_T64 x6 x8).f0, (y310 ++ ((rd_T64 x6 x8).f1))⟩ : S64)]) x6 x7 (wrap64 (x8 + 1))) else (none)) else (none))) else (none)) else (none)) else (some x3)
def dragomanref11_CopyComms.f (k : Nat) (l0 : List (S64)) : Option ((List (S64))) := dragomanref11_CopyComms.l0 k ([] : List (S64)) l0 (l0.length : Int) 0
def dragomanref11_CopyComms.T5 : Bool × List (List Nat × List Nat) := (true, [([], []), ([], []), ([1], [1]), ([], []), ([], []), ([4], [4]), ([3, 5], [3, 5]), ([2, 6], [2, 6]), ([7], [7]), ([0, 8, 6], [0, 8]), ([9, 9, 0, 1, 2, 3, 4, 5, 6, 7, 8, 9], [0, 9])])
def dragomanref11_CopyComms.B5 : List Nat := [0, 0, 2, 0, 0, 16, 56, 126, 254, 511, 1023]
theorem dragomanref11_CopyComms.tab5 : rtab .any (opsOf Try.f52 5) = dragomanref11_CopyComms.T5 := by kernel_rfl
theorem dragomanref11_CopyComms.bits5 : waitsOk dragomanref11_CopyComms.T5.2 dragomanref11_CopyComms.B5 = true := by kernel_rfl
set_option maxHeartbeats 8000000 in
set_option maxRecDepth 100000 in
theorem dragomanref11_CopyComms.calls (k : Nat) (A0 : Option Addr) (c0 : Nat) (l0 : List (S64)) (r : List (S64)) (w : World) (hr0 : Kd.C k64 w A0 l0.length l0) (hc0 : l0.length ≤ c0) (h : dragomanref11_CopyComms.f k l0 = some r) :
 Calls Try.prog 52 #[.slice A0 l0.length c0] w fun e w' => ∃ v0_ : Value, e = .returned (v0_) ∧ Kd.S k64 64 w' w.heap.size (fun _ => True) v0_ r ∧ Below w.heap.size w w' := by
 have hu64 := Try.underlying64
 have HR0 := aM hr0
 have HC0 := aM hc0
 clear hr0 hc0
 have HB := aM (Below.refl w.heap.size w)
 have H : (dragomanref11_CopyComms.l0 k ([] : List (S64)) l0 (l0.length : Int) 0) = some r := h
 clear h
 have H' := aM H
 clear H
 go_enter Try.func52, Try.ntmps52
 go_wp2
 go_loopg [3, 8] k (fun kq v3 v8 w' => ∃ (x3_1 : List (S64)) (x8_1 : Int), v8 = .int .i64 x8_1 ∧ Aside0 (dragomanref11_CopyComms.l0 kq x3_1 l0 (l0.length : Int) x8_1 = some r) ∧ Aside0 (kq ≤ k) ∧ Aside0 (Kd.S k64 64 w' w.heap.size (fun _ => True) v3 x3_1) ∧ Aside0 (Below w.heap.size w w'))
 case atStart => exact ⟨(([] : List (S64))), (0), (by first | rfl | (simp; done) | (simp [*]; done)), H', ⟨Nat.le_refl _⟩, ⟨by first | exact Kd.S_nil _ _ _ _ _ | exact Kd.N_nil _ _ _ _ _ | exact Kd.V_nil _ _ _ _ _ | exact Kd.Q_nil _ _ _ _ _ | exact Kd.R_nil _ _ _ _ _⟩, ⟨by repeat (first | (with_reducible first | exact HB.out | apply blA | apply blN | apply blD) | exact HB.out)⟩⟩
 case round =>
  clear H'
  obtain ⟨x3_1, x8_1, rfl, HA, HK1, HO_3, HB⟩ := hrel
  cases gk with
  | zero => exact absurd HA.out (by simp [dragomanref11_CopyComms.l0])
  | succ k1 =>
   have H := HA.out
   clear HA
   simp only [dragomanref11_CopyComms.l0] at H
   by_cases c2 : x8_1 < (l0.length : Int)
   · rw [if_pos c2] at H
     have c2b0 : decide (x8_1 < (l0.length : Int)) = true := decide_eq_true c2
     clear c2
     by_cases c3 : 0 ≤ x8_1
     · rw [if_pos c3] at H
       have c3b0 : decide (0 ≤ x8_1) = true := decide_eq_true c3
       clear c3
       by_cases c4 : x8_1 < (l0.length : Int)
       · rw [if_pos c4] at H
         have c4b0 : decide (x8_1 < (l0.length : Int)) = true := decide_eq_true c4
         clear c4
         obtain ⟨y310, hy310⟩ : ∃ y_ : List (S76), y_ = (([] : List (S76))) := ⟨_, rfl⟩
         replace H : (if y310.length + ((rd_T64 l0 x8_1).f1).length < 17592186044416 then (if x3_1.length < 4398046511104 then (dragomanref11_CopyComms.l0 k1 (x3_1 ++ [(⟨(rd_T64 l0 x8_1).f0, (y310 ++ ((rd_T64 l0 x8_1).f1))⟩ : S64)]) l0 (l0.length : Int) (wrap64 (x8_1 + 1))) else (none)) else (none)) = some r := by first | (rw [hy310]; with_reducible exact H) | (have H2_ := (Option.bind_some _ _).symm.trans H; rw [hy310]; with_reducible exact H2_) | (have H2_ := (Option.bind_some _ _).symm.trans H; with_reducible exact H2_) | with_reducible exact H | (rw [hy310]; exact H) | exact H
         have Ny310 := aM hy310
         clear hy310
         by_cases c5 : y310.length + ((rd_T64 l0 x8_1).f1).length < 17592186044416
         · rw [if_pos c5] at H
           have LMc5 := aM c5
           clear c5
           obtain ⟨y313, hy313⟩ : ∃ y_ : List (S76), y_ = (y310 ++ ((rd_T64 l0 x8_1).f1)) := ⟨_, rfl⟩
           replace H : (if x3_1.length < 4398046511104 then (dragomanref11_CopyComms.l0 k1 (x3_1 ++ [(⟨(rd_T64 l0 x8_1).f0, y313⟩ : S64)]) l0 (l0.length : Int) (wrap64 (x8_1 + 1))) else (none)) = some r := by first | (rw [hy313]; with_reducible exact H) | (have H2_ := (Option.bind_some _ _).symm.trans H; rw [hy313]; with_reducible exact H2_) | (have H2_ := (Option.bind_some _ _).symm.trans H; with_reducible exact H2_) | with_reducible exact H | (rw [hy313]; exact H) | exact H
           have Ny313 := aM hy313
           clear hy313
           by_cases c6 : x3_1.length < 4398046511104
           · rw [if_pos c6] at H
             have LMc6 := aM c6
             clear c6
             obtain ⟨y316, hy316⟩ : ∃ y_ : List (S64), y_ = (x3_1 ++ [(⟨(rd_T64 l0 x8_1).f0, y313⟩ : S64)]) := ⟨_, rfl⟩
             replace H : (dragomanref11_CopyComms.l0 k1 y316 l0 (l0.length : Int) (wrap64 (x8_1 + 1))) = some r := by first | (rw [hy316]; with_reducible exact H) | (have H2_ := (Option.bind_some _ _).symm.trans H; rw [hy316]; with_reducible exact H2_) | (have H2_ := (Option.bind_some _ _).symm.trans H; with_reducible exact H2_) | with_reducible exact H | (rw [hy316]; exact H) | exact H
             have Ny316 := aM hy316
             clear hy316
             have H' := aM H
             clear H
             have p308 : 0 ≤ (x8_1 : Int) := of_decide_eq_true (by first | (with_reducible assumption) | assumption)
             have q308 : x8_1 < (l0.length : Int) := of_decide_eq_true (by first | (with_reducible assumption) | assumption)
             obtain ⟨ad308, A308_1, c308_1, e308, hx308_0, hx308_1, hl308_1, hi308_1⟩ := at_T64 HR0.out x8_1 p308 q308
             cases e308
             replace hx308_0 := (HB.out.cell (World.block_lt_of_cell? w _ hx308_0)).trans hx308_0
             replace hx308_1 := (HB.out.cell (World.block_lt_of_cell? w _ hx308_1)).trans hx308_1
             have HR308_1 := aM hi308_1
             have HC308_1 := aM hl308_1
             clear hi308_1 hl308_1
             replace p308 := eq_true p308
             replace q308 := eq_true q308
             try go_wp2_with (first | ((with_reducible refine gate_dst (N := 5) rfl ?_); refine box_event ?hg (N := 5) ?hd (cs := #[.bool false, .slice none 0 0]) (t := 64) ?hr ?_; (case hd => rfl); (case hg => rfl); (case hr => first | (go_simp; done) | (go_simp; rfl)); intro gb309 hg w7 hbox hb; have n0_ := aM (Kd.S_below (Kd.S_elderB (by (with_reducible repeat (first | apply Kd.S_alloc | apply Kd.S_drewN | apply Kd.S_drew)); exact HO_3.out) gb309 (Nat.le_of_eq hg.symm)) hb); have n1_ := aM (below_step (by repeat (first | (with_reducible first | exact HB.out | apply blA | apply blN | apply blD) | exact HB.out)) hb); have n2_ := aM (hbox); have n3_ := aM ((by rw [hg]; exact (below_size (by repeat (first | (with_reducible first | exact HB.out | apply blA | apply blN | apply blD) | exact HB.out))) : w.heap.size ≤ gb309)); have n4_ := aM ((by rw [hg]; exact (below_size (by repeat (first | (with_reducible first | exact HB.out | apply blA | apply blN | apply blD) | exact HB.out))) : w.heap.size ≤ gb309)); clear HO_3; clear HB; have HO_3 := n0_; have HB := n1_; have BK309 := n2_; have GW309 := n3_; have GE309 := n4_; clear n0_ n1_ n2_ n3_ n4_; clear hb hbox hg; have hcz8_0 : w7.cell? ⟨gb309, 0, none⟩ = some (.bool false) := (blk_cell BK309.out 0).trans rfl; have hcz8_1 : w7.cell? ⟨gb309, 1, none⟩ = some (.slice none 0 0) := (blk_cell BK309.out 1).trans rfl; have hfz8_0 := bF BK309.out 0; have hfz8_1 := bF BK309.out 1))
             have n0_ : Aside0 (Kd.S k64 64 ((w7.setCell ⟨gb309, 0, none⟩ (.bool ((rd_T64 l0 x8_1).f0))).setCell ⟨gb309, 1, none⟩ (.slice A308_1 ((rd_T64 l0 x8_1).f1).length c308_1)) w.heap.size (fun k_ => k_ ≠ gb309) u3 x3_1) := ⟨by (with_reducible repeat (first | apply Kd.S_alloc | apply Kd.S_drewN | apply Kd.S_drew)); exact Kd.S_mono (Kd.S_far (p := ⟨gb309, 1, none⟩) (Kd.S_far (p := ⟨gb309, 0, none⟩) (Kd.S_mono HO_3.out (fun k_ hk => (⟨hk, hk.2⟩ : _ ∧ k_ ≠ gb309))) (fun _ hk => hk.2) (.bool ((rd_T64 l0 x8_1).f0))) (fun _ hk => hk.2) (.slice A308_1 ((rd_T64 l0 x8_1).f1).length c308_1)) (fun _ hk => hk.1.2)⟩
             have n1_ : Aside0 (((w7.setCell ⟨gb309, 0, none⟩ (.bool ((rd_T64 l0 x8_1).f0))).setCell ⟨gb309, 1, none⟩ (.slice A308_1 ((rd_T64 l0 x8_1).f1).length c308_1)).heap[gb309]? = some (.cells #[.bool ((rd_T64 l0 x8_1).f0), .slice A308_1 ((rd_T64 l0 x8_1).f1).length c308_1] 64 (0, 0))) := ⟨by (with_reducible repeat (first | apply bkN | apply bkD | apply bkA)); refine blk_put (cs := #[.bool ((rd_T64 l0 x8_1).f0), .slice none 0 0]) ?_ 1 _ rfl; (with_reducible repeat (first | apply bkN | apply bkD | apply bkA)); refine blk_put (cs := #[.bool false, .slice none 0 0]) ?_ 0 _ rfl; (with_reducible repeat (first | apply bkN | apply bkD | apply bkA)); exact BK309.out⟩
             have n2_ : Aside0 (Below w.heap.size w ((w7.setCell ⟨gb309, 0, none⟩ (.bool ((rd_T64 l0 x8_1).f0))).setCell ⟨gb309, 1, none⟩ (.slice A308_1 ((rd_T64 l0 x8_1).f1).length c308_1))) := ⟨by repeat (first | (with_reducible first | exact HB.out | apply blA | apply blN | apply blD | refine bS ?_ GE309.out) | exact HB.out)⟩
             (try clear HO_3)
             (try clear BK309)
             (try clear HB)
             generalize ((w7.setCell ⟨gb309, 0, none⟩ (.bool ((rd_T64 l0 x8_1).f0))).setCell ⟨gb309, 1, none⟩ (.slice A308_1 ((rd_T64 l0 x8_1).f1).length c308_1)) = w9 at n0_ n1_ n2_ ⊢
             have HO_3 := n0_
             have BK309 := n1_
             have HB := n2_
             clear n0_ n1_ n2_
             have n0_ := aM (Kd.S_drew HO_3.out)
             have n1_ := aM (blk_drew BK309.out)
             have n2_ := aM (below_drew1 HB.out)
             clear HO_3
             clear BK309
             clear HB
             have HO_3 := n0_
             have BK309 := n1_
             have HB := n2_
             clear n0_ n1_ n2_
             refine start_ (n := 11) (S := fun w' => w'.cell? ⟨gb309, 0, none⟩ = some (.bool ((rd_T64 l0 x8_1).f0)) ∧ w'.cell? ⟨gb309, 1, none⟩ = some (.slice A308_1 ((rd_T64 l0 x8_1).f1).length c308_1)) (ds := []) (tf 0 11) (by kernel_rfl) rfl rfl ⟨(blk_cell BK309.out 0).trans rfl, (blk_cell BK309.out 1).trans rfl⟩ (fun hHeld => ?_); refine with_tabW dragomanref11_CopyComms.tab5 dragomanref11_CopyComms.bits5 (fun HT_ HW_ => ?_)
             generalize w9.drew = w10 at HO_3 BK309 HB hHeld ⊢
             refine pure_ (i := 0) (N := some 12) (v := ?_) (a' := ?_) (tf 1 10) rfl rfl (any_of HT_.out (by kernel_rfl)) (fun _ _ _ h => h) (Or.inl ⟨by rfl, ?_⟩) ?_ ?_
             rotate_left
             · intro w'
               go_simp
               with_reducible rfl
             rotate_left
             · simp only [Act.put, sT, sZ, sS, i64_w, i32_w]
               rfl
             refine pure_ (i := 1) (N := some 13) (v := ?_) (a' := ?_) (tf 2 9) rfl rfl (any_of HT_.out (by kernel_rfl)) (fun _ _ _ h => h) (Or.inl ⟨by rfl, ?_⟩) ?_ ?_
             rotate_left
             · intro w'
               go_simp
               with_reducible rfl
             rotate_left
             · simp only [Act.put, sT, sZ, sS, i64_w, i32_w]
               rfl
             refine pure_ (i := 4) (N := some 16) (v := ?_) (a' := ?_) #[true, true, false, false, true, false, false, false, false, false, false] rfl rfl (any_of HT_.out (by kernel_rfl)) (fun _ _ _ h => h) (Or.inl ⟨by rfl, ?_⟩) ?_ ?_
             rotate_left
             · intro w'
               go_simp
               with_reducible rfl
             rotate_left
             · simp only [Act.put, sT, sZ, sS, i64_w, i32_w]
               rfl
             refine take_ (i := 2) (N := some 14) (v := ?_) (a' := ?_) #[true, true, true, false, true, false, false, false, false, false, false] rfl rfl (take_ofW HT_.out HW_.out (by kernel_rfl)) (fun _ _ _ h => h) (Or.inl ⟨by rfl, ?_⟩) hHeld ?_ ?_
             rotate_left
             · rintro w' ⟨s0, s1⟩
               go_simp
               with_reducible rfl
             rotate_left
             · simp only [Act.put, sT, sZ, sS, i64_w, i32_w]
               rfl
             refine take_ (i := 5) (N := some 17) (v := ?_) (a' := ?_) #[true, true, true, false, true, true, false, false, false, false, false] rfl rfl (take_ofW HT_.out HW_.out (by kernel_rfl)) (fun _ _ _ h => h) (Or.inl ⟨by rfl, ?_⟩) hHeld ?_ ?_
             rotate_left
             · rintro w' ⟨s0, s1⟩
               go_simp
               with_reducible rfl
             rotate_left
             · simp only [Act.put, sT, sZ, sS, i64_w, i32_w]
               rfl
             refine one_ (i := 3) (N := some 15) (tf 6 5) rfl rfl (one_of HT_.out (by kernel_rfl)) (by decide) (fun K hK => ?_)
             refine Kd.R_lit_step k76 _ 76 ?hg (N := 15) ?hd (xs := ([] : List (S76))) (inner := []) (ok := fun _ => True) (okp := fun _ => True) ?hr ?hp (fun _ hk => hk) trivial (Below.refl _ _) (Nat.le_refl _) (by simp) ?_; (case hd => rfl); (case hg => rfl); (case hr => first | (go_simp; done) | (go_simp; rfl)); (case hp => exact (Reps.none _ _))
             intro v311 w11 ho12 hb hg_ hnew_
             clear hg_ hnew_
             (first | rw [← Ny310.out] at ho12 | (simp only [Int.reduceToNat] at ho12; rw [← Ny310.out] at ho12))
             have n0_ := aM (Kd.S_elder' (by (with_reducible repeat (first | apply Kd.S_alloc | apply Kd.S_drewN | apply Kd.S_drew)); exact HO_3.out) (Kd.R_base ho12) hb)
             have n1_ := aM (Kd.R_lower ho12 (below_size (by repeat (first | (with_reducible first | exact HB.out | apply blA | apply blN | apply blD | refine bS ?_ GE309.out) | exact HB.out))))
             have n2_ := aM (blk_below (g := gb309) (o := .cells #[.bool ((rd_T64 l0 x8_1).f0), .slice A308_1 ((rd_T64 l0 x8_1).f1).length c308_1] 64 (0, 0)) (up_ BK309.out) hb)
             have n3_ := aM (below_step (by repeat (first | (with_reducible first | exact HB.out | apply blA | apply blN | apply blD | refine bS ?_ GE309.out) | exact HB.out)) hb)
             clear HO_3
             clear BK309
             clear HB
             have HO_3 := n0_
             have HO312 := n1_
             have BK309 := n2_
             have HB := n3_
             clear n0_ n1_ n2_ n3_
             clear hb ho12
             refine hK.out _ _ ⟨(blk_cell BK309.out 0).trans rfl, (blk_cell BK309.out 1).trans rfl⟩ (fun hHeld => ?_)
             clear hK K
             refine norm_ (a' := ?_) ?_ ?_
             rotate_left
             · show Act.put _ (some 15) _ = _
               simp only [Act.put, sT, sZ, sS, i64_w, i32_w]
               rfl
             refine one_ (i := 6) (N := some 18) (tf 7 4) rfl rfl (one_of HT_.out (by kernel_rfl)) (by decide) (fun K hK => ?_)
             refine Kd.R_append_rows_step k76 (w0 := w) w.heap.size (by rfl) (.tmp 15) (.tmp 17) 62 76 (.agg #[(.int .u32 0), (.int .u32 0)]) 8 rfl Try.underlying62 info76 rfl (by decide) (by omega) v311 y310 ((rd_T64 l0 x8_1).f1) _ _ _ (fun _ => True) (fun _ => False) rfl rfl ?aO ?aR (fun _ _ h => h) (fun _ h => h.elim) ?aF ?aB ?aS ?aL ?_
             (case aR => repeat (first | exact (Kd.C_below HR308_1.out HB.out) | (with_reducible refine Kd.C_alloc ?_ _) | (with_reducible refine Kd.C_drewN ?_ _) | (with_reducible refine Kd.C_drew ?_)))
             (case aB => exact (by repeat (first | (with_reducible first | exact HB.out | apply blA | apply blN | apply blD | refine bS ?_ GE309.out) | exact HB.out)))
             (case aF => exact (fun _ _ => trivial))
             (case aO => exact (uk_ HO312.out))
             (case aS => exact (below_size (by repeat (first | (with_reducible first | exact HB.out | apply blA | apply blN | apply blD | refine bS ?_ GE309.out) | exact HB.out))))
             (case aL => have := LMc5.out; omega)
             intro v314 w13 ho hb hg hat
             rw [← Ny313.out] at ho
             have n0_ := aM (Kd.S_after (ok := (fun k_ => k_ ≠ gb309)) (by (with_reducible repeat (first | apply Kd.S_alloc | apply Kd.S_drewN | apply Kd.S_drew)); exact HO_3.out) hg hat)
             have n1_ := aM (blk_grown (g := gb309) (o := .cells #[.bool ((rd_T64 l0 x8_1).f0), .slice A308_1 ((rd_T64 l0 x8_1).f1).length c308_1] 64 (0, 0)) (up_ BK309.out) hg (Kd.R_ne HO312.out BK309.out (by decide)))
             have n2_ := aM (hb)
             have n3_ := aM (ho)
             clear HO_3
             clear BK309
             clear HB
             clear HO312
             have HO_3 := n0_
             have BK309 := n1_
             have HB := n2_
             have HO315 := n3_
             clear n0_ n1_ n2_ n3_
             clear ho hb hg hat
             obtain ⟨Ao14, co14, eo14⟩ := Kd.R_slice HO315.out
             (first | subst eo14 | (injection eo14 with f1_ f2_ f3_; have f4_ := f1_.symm; have f5_ := f3_.symm; clear f1_ f2_ f3_; subst f4_; subst f5_))
             refine hK.out _ _ ⟨(blk_cell BK309.out 0).trans rfl, (blk_cell BK309.out 1).trans rfl⟩ (fun hHeld => ?_)
             clear hK K
             refine norm_ (a' := ?_) ?_ ?_
             rotate_left
             · show Act.put _ (some 18) _ = _
               simp only [Act.put, sT, sZ, sS, i64_w, i32_w]
               rfl
             refine pure_ (i := 7) (N := some 19) (v := ?_) (a' := ?_) (tf 8 3) rfl rfl (any_of HT_.out (by kernel_rfl)) (fun _ _ _ h => h) (Or.inl ⟨by rfl, ?_⟩) ?_ ?_
             rotate_left
             · intro w'
               go_simp
               with_reducible rfl
             rotate_left
             · simp only [Act.put, sT, sZ, sS, i64_w, i32_w]
               rfl
             refine one_ (i := 8) (N := some 20) (tf 9 2) rfl rfl (one_of HT_.out (by kernel_rfl)) (by decide) (fun K hK => ?_)
             refine value_ (w1 := ?_) (v := ?_) (by rfl) rfl ?_ ?_
             rotate_left 2
             · go_simp
               constructor
               · rfl
               · rfl
             refine hK.out _ _ ⟨(blk_cell (blk_alloc BK309.out _) 0).trans rfl, (blk_cell (blk_alloc BK309.out _) 1).trans rfl⟩ (fun hHeld => ?_)
             clear hK K
             refine norm_ (a' := ?_) ?_ ?_
             rotate_left
             · show Act.put _ (some 20) _ = _
               simp only [Act.put, sT, sZ, sS, i64_w, i32_w]
               rfl
             refine one_ (i := 9) (N := some 21) (tf 10 1) rfl rfl (one_of HT_.out (by kernel_rfl)) (by decide) (fun K hK => ?_)
             refine Kd.S_append_step k64 (w0 := w) w.heap.size (by rfl) (.tmp 12) (.tmp 20) 44 64 (.agg #[(.bool false), (.slice none 0 0)]) 32 rfl Try.underlying44 info64 rfl (by decide) (by omega) u3 x3_1 (⟨(rd_T64 l0 x8_1).f0, y313⟩ : S64) [.bool ((rd_T64 l0 x8_1).f0), .slice Ao14 y313.length co14] (fun k_ => k_ ≠ gb309) (fun k_ => some k_ = (.slice Ao14 y313.length co14 : Value).ownBlock) rfl rfl ?aP (fun k_ hk_ => ((Kd.R_mono (ok' := fun k_ => ((fun k_ => k_ ≠ gb309)) k_ ∧ some k_ ≠ (u3 : Value).ownBlock) (Kd.R_types (Kd.R_apart' (HO315.out) (Kd.S_typed HO_3.out) (by decide)) BK309.out (by decide)) (fun k_ hk => ⟨hk.2, hk.1.2⟩))).1 k_ hk_.symm) ?aF ?aO ?aB ?aS ?aL ?_
             (case aP => exact k64_mkM _ _ _ (⟨(rd_T64 l0 x8_1).f0, y313⟩ : S64) (Kd.R_mono (Kd.R_tight rfl (Kd.R_mono (ok' := fun k_ => ((fun k_ => k_ ≠ gb309)) k_ ∧ some k_ ≠ (u3 : Value).ownBlock) (Kd.R_types (Kd.R_apart' (HO315.out) (Kd.S_typed HO_3.out) (by decide)) BK309.out (by decide)) (fun k_ hk => ⟨hk.2, hk.1.2⟩))) (fun _ h_ => h_)))
             (case aB => exact (by repeat (first | (with_reducible first | exact HB.out | apply blA | apply blN | apply blD | refine bS ?_ GE309.out) | exact HB.out)))
             (case aF => exact (fun k_ hk => Kd.freshB (g := gb309) (o := .cells #[.bool ((rd_T64 l0 x8_1).f0), .slice A308_1 ((rd_T64 l0 x8_1).f1).length c308_1] 64 (0, 0)) (up_ BK309.out) k_ hk))
             (case aO => exact (by (with_reducible repeat (first | apply Kd.S_alloc | apply Kd.S_drewN | apply Kd.S_drew)); exact Kd.S_mono HO_3.out (fun k_ hk => ⟨hk.1, fun e_ => hk.2 e_⟩)))
             (case aS => exact (below_size (by repeat (first | (with_reducible first | exact HB.out | apply blA | apply blN | apply blD | refine bS ?_ GE309.out) | exact HB.out))))
             (case aL => have := LMc6.out; omega)
             intro v317 w15 ho hb hg hat
             rw [← Ny316.out] at ho
             have n0_ := aM (blk_grown (g := gb309) (o := .cells #[.bool ((rd_T64 l0 x8_1).f0), .slice A308_1 ((rd_T64 l0 x8_1).f1).length c308_1] 64 (0, 0)) (up_ BK309.out) hg (Kd.S_away HO_3.out (fun _ hk => hk.1)))
             have n1_ := aM (hb)
             have n2_ := aM (ho)
             clear BK309
             clear HB
             clear HO_3
             clear HO315
             have BK309 := n0_
             have HB := n1_
             have HO318 := n2_
             clear n0_ n1_ n2_
             clear ho hb hg hat
             refine hK.out _ _ ⟨(blk_cell BK309.out 0).trans rfl, (blk_cell BK309.out 1).trans rfl⟩ (fun hHeld => ?_)
             clear hK K
             refine norm_ (a' := ?_) ?_ ?_
             rotate_left
             · show Act.put _ (some 21) _ = _
               simp only [Act.put, sT, sZ, sS, i64_w, i32_w]
               rfl
             refine pure_ (i := 10) (N := some 3) (v := ?_) (a' := ?_) (tf 11 0) rfl rfl (any_of HT_.out (by kernel_rfl)) (fun _ _ _ h => h) (Or.inl ⟨by rfl, ?_⟩) ?_ ?_
             rotate_left
             · intro w'
               go_simp
               with_reducible rfl
             rotate_left
             · simp only [Act.put, sT, sZ, sS, i64_w, i32_w]
               rfl
             refine done_ (done_of HT_.out (by kernel_rfl)) ?_
             try go_wp2
             go_roundg k1
             case measure => have := HK1.out; omega
             case rel => exact ⟨(y316), (wrap64 (x8_1 + 1)), (by first | rfl | (simp; done) | (simp [*]; done)), H', ⟨by have := HK1.out; omega⟩, ⟨by (with_reducible repeat (first | apply Kd.S_alloc | apply Kd.S_drewN | apply Kd.S_drew)); exact Kd.S_mono HO318.out (fun _ hk => trivial)⟩, ⟨by repeat (first | (with_reducible first | exact HB.out | apply blA | apply blN | apply blD | refine bS ?_ GE309.out) | exact HB.out)⟩⟩
           · rw [if_neg c6] at H
             exact absurd H (by simp)
         · rw [if_neg c5] at H
           exact absurd H (by simp)
       · rw [if_neg c4] at H
         exact absurd H (by simp)
     · rw [if_neg c3] at H
       exact absurd H (by simp)
   · rw [if_neg c2] at H
     have c2b0 : decide (x8_1 < (l0.length : Int)) = false := decide_eq_false c2
     clear c2
     obtain rfl := Option.some.inj H
     go_wp2
     first | go_ret | refine ⟨_, results_tmp rfl _ _ _, ?_⟩
     exact ⟨_, by first | rfl | (simp [errW_none, errW_some] <;> rfl) | (simp [*, errW_none, errW_some] <;> rfl), by (with_reducible repeat (first | apply Kd.S_alloc | apply Kd.S_drewN | apply Kd.S_drew)); exact HO_3.out, by repeat (first | (with_reducible first | exact HB.out | apply blA | apply blN | apply blD) | exact HB.out)⟩
end Go.Proofs.Ytlkjfjlmjgkheaa.H
