import Derived.Test.YtlkjfjlmjgkheaaGx0
namespace Go.Proofs.Ytlkjfjlmjgkheaa.G
open Go.RowKit Go.Proofs.YtlkjfjlmjgkheaaW.PrintWords Go.Proofs.YtlkjfjlmjgkheaaW.PrintLast Go.Proofs.YtlkjfjlmjgkheaaW.PrintMore
attribute [local go_sem] max2_int min2_int max_two min_two max_three min_three max_four min_four
set_option linter.unusedVariables false
set_option linter.unusedSimpArgs false
mutual
def r5_Copy.l0 : Nat → List (S25) → Int → Int → Int → List (S66) → List (S25) → Option (Int × (List (S66)) × (List (S25)))
 | 0, _, _, _, _, _, _ => none
 | k + 1, x14, x15, x16, x309000, x309001, x309002 => if x16 < x15 then (if 0 ≤ x16 then (if x16 < (x14.length : Int) then ((r5_Copy.f k ((rd_T25 x14 x16).f0) ((rd_T25 x14 x16).f1) ((rd_T25 x14 x16).f2)).bind fun bt311 => (if x309002.length < 2513169434916 then (r5_Copy.l0 k x14 x15 (wrap64 (x16 + 1)) x309000 x309001 (x309002 ++ [(⟨bt311.1, bt311.2.1, bt311.2.2⟩ : S25)])) else (none))) else (none)) else (none)) else (some (x309000, x309001, x309002))
def r5_Copy.f : Nat → Int → List (S66) → List (S25) → Option (Int × (List (S66)) × (List (S25)))
 | 0, _, _, _ => none
 | k + 1, a0_0, l0_1, l0_2 => (some (([] : List (S66)) : List (S66))).bind fun y302 => (if y302.length + l0_1.length < 17592186044416 then (r5_Copy.l0 k l0_2 (l0_2.length : Int) 0 a0_0 (y302 ++ l0_1) ([] : List (S25))) else (none))
end
def r5_Copy.T1 : Bool × List (List Nat × List Nat) := (true, [([], []), ([0], [0]), ([], []), ([], []), ([3], [3]), ([2, 4], [2, 4]), ([1, 5], [1, 5]), ([], []), ([7, 6, 5, 0, 1, 2, 3, 4, 5, 6, 7], [6, 7])])
def r5_Copy.B1 : List Nat := [0, 1, 0, 0, 8, 28, 63, 0, 255]
theorem r5_Copy.tab1 : rtab .any (opsOf Try.f15 1) = r5_Copy.T1 := by kernel_rfl
theorem r5_Copy.bits1 : waitsOk r5_Copy.T1.2 r5_Copy.B1 = true := by kernel_rfl
def r5_Copy.T5 : Bool × List (List Nat × List Nat) := (true, [([], []), ([0], [0]), ([], []), ([2], [2]), ([3], [3]), ([1, 4, 3], [1, 4]), ([0, 1, 2, 3, 4, 5], []), ([6, 5, 5, 0, 1, 2, 3, 4, 5], [5, 6])])
def r5_Copy.B5 : List Nat := [0, 1, 0, 4, 12, 31, 63, 127]
theorem r5_Copy.tab5 : rtab .any (opsOf Try.f15 5) = r5_Copy.T5 := by kernel_rfl
theorem r5_Copy.bits5 : waitsOk r5_Copy.T5.2 r5_Copy.B5 = true := by kernel_rfl
set_option maxHeartbeats 8000000 in
set_option maxRecDepth 100000 in
theorem r5_Copy.calls (k : Nat) : ∀ (a0_0 : Int) (A0_1 : Option Addr) (c0_1 : Nat) (l0_1 : List (S66)) (A0_2 : Option Addr) (c0_2 : Nat) (l0_2 : List (S25)) (r1 : Int) (r2 : List (S66)) (r3 : List (S25)) (w : World) (hr0_1 : Kd.C k66 w A0_1 l0_1.length l0_1) (hc0_1 : l0_1.length ≤ c0_1) (hr0_2 : Kd.C k25 w A0_2 l0_2.length l0_2) (hc0_2 : l0_2.length ≤ c0_2) (h : r5_Copy.f k a0_0 l0_1 l0_2 = some (r1, r2, r3)),
 Calls Try.prog 15 #[.agg #[.int .i64 a0_0, .slice A0_1 l0_1.length c0_1, .slice A0_2 l0_2.length c0_2]] w fun e w' => ∃ v1_ v2_ : Value, e = .returned (.agg #[.int .i64 r1, v1_, v2_]) ∧ Kd.R k66 66 w' w.heap.size (fun _ => True) v1_ r2 ∧ Kd.R k25 25 w' w.heap.size (fun k_ => some k_ ≠ (v1_ : Value).ownBlock) v2_ r3 ∧ Below w.heap.size w w' := by
 induction k using Nat.strongRecOn with
 | _ k ih =>
 intro a0_0 A0_1 c0_1 l0_1 A0_2 c0_2 l0_2 r1 r2 r3 w hr0_1 hc0_1 hr0_2 hc0_2 h
 cases k with
 | zero => exact absurd h (by simp [r5_Copy.f])
 | succ k =>
 simp only [r5_Copy.f] at h
 have hu25 := Try.underlying25
 have HR0_1 := aM hr0_1
 have HC0_1 := aM hc0_1
 clear hr0_1 hc0_1
 have HR0_2 := aM hr0_2
 have HC0_2 := aM hc0_2
 clear hr0_2 hc0_2
 have HB := aM (Below.refl w.heap.size w)
 have H : ((some (([] : List (S66)) : List (S66))).bind fun y302 => (if y302.length + l0_1.length < 17592186044416 then (r5_Copy.l0 k l0_2 (l0_2.length : Int) 0 a0_0 (y302 ++ l0_1) ([] : List (S25))) else (none))) = some (r1, r2, r3) := h
 clear h
 obtain ⟨y302, hy302⟩ : ∃ y_ : List (S66), y_ = (([] : List (S66))) := ⟨_, rfl⟩
 replace H : (if y302.length + l0_1.length < 17592186044416 then (r5_Copy.l0 k l0_2 (l0_2.length : Int) 0 a0_0 (y302 ++ l0_1) ([] : List (S25))) else (none)) = some (r1, r2, r3) := by first | (rw [hy302]; with_reducible exact H) | (have H2_ := (Option.bind_some _ _).symm.trans H; rw [hy302]; with_reducible exact H2_) | (have H2_ := (Option.bind_some _ _).symm.trans H; with_reducible exact H2_) | with_reducible exact H | (rw [hy302]; exact H) | exact H
 have Ny302 := aM hy302
 clear hy302
 by_cases c2 : y302.length + l0_1.length < 17592186044416
 · rw [if_pos c2] at H
   have LMc2 := aM c2
   clear c2
   obtain ⟨y305, hy305⟩ : ∃ y_ : List (S66), y_ = (y302 ++ l0_1) := ⟨_, rfl⟩
   replace H : (r5_Copy.l0 k l0_2 (l0_2.length : Int) 0 a0_0 y305 ([] : List (S25))) = some (r1, r2, r3) := by first | (rw [hy305]; with_reducible exact H) | (have H2_ := (Option.bind_some _ _).symm.trans H; rw [hy305]; with_reducible exact H2_) | (have H2_ := (Option.bind_some _ _).symm.trans H; with_reducible exact H2_) | with_reducible exact H | (rw [hy305]; exact H) | exact H
   have Ny305 := aM hy305
   clear hy305
   have H' := aM H
   clear H
   go_enter Try.func15, Try.ntmps15
   try go_wp2_with (first | ((with_reducible refine gate_dst (N := 1) rfl ?_); refine box_event ?hg (N := 1) ?hd (cs := #[.int .i64 a0_0, .slice A0_1 l0_1.length c0_1, .slice A0_2 l0_2.length c0_2]) (t := 25) ?hr ?_; (case hd => rfl); (case hg => rfl); (case hr => first | (go_simp; done) | (go_simp; rfl)); intro gb300 hg w3 hbox hb; have n0_ := aM (below_step (by repeat (first | (with_reducible first | exact HB.out | apply blA | apply blN | apply blD) | exact HB.out)) hb); have n1_ := aM (hbox); have n2_ := aM ((by rw [hg]; exact (below_size (by repeat (first | (with_reducible first | exact HB.out | apply blA | apply blN | apply blD) | exact HB.out))) : w.heap.size ≤ gb300)); have n3_ := aM ((by rw [hg]; exact (below_size (by repeat (first | (with_reducible first | exact HB.out | apply blA | apply blN | apply blD) | exact HB.out))) : w.heap.size ≤ gb300)); clear HB; have HB := n0_; have BK300 := n1_; have GW300 := n2_; have GE300 := n3_; clear n0_ n1_ n2_ n3_; clear hb hbox hg) | ((with_reducible refine gate_dst (N := 2) rfl ?_); refine box_event ?hg (N := 2) ?hd (cs := #[.int .i64 0, .slice none 0 0, .slice none 0 0]) (t := 25) ?hr ?_; (case hd => rfl); (case hg => rfl); (case hr => first | (go_simp; done) | (go_simp; rfl)); intro gb301 hg w4 hbox hb; have n0_ := aM (blk_below (g := gb300) (o := .cells #[.int .i64 a0_0, .slice A0_1 l0_1.length c0_1, .slice A0_2 l0_2.length c0_2] 25 (0, 0)) (by (with_reducible repeat (first | apply bkN | apply bkD | apply bkA)); exact BK300.out) hb); have n1_ := aM (below_step (by repeat (first | (with_reducible first | exact HB.out | apply blA | apply blN | apply blD | refine bS ?_ GE300.out) | exact HB.out)) hb); have n2_ := aM (hbox); have n3_ := aM ((by rw [hg]; exact (below_size (by repeat (first | (with_reducible first | exact HB.out | apply blA | apply blN | apply blD | refine bS ?_ GE300.out) | exact HB.out))) : w.heap.size ≤ gb301)); have n4_ := aM ((by rw [hg]; exact (below_size (by repeat (first | (with_reducible first | exact HB.out | apply blA | apply blN | apply blD | refine bS ?_ GE300.out) | exact HB.out))) : w.heap.size ≤ gb301)); have n5_ := aM ((by rw [hg]; exact Nat.ne_of_lt (blk_lt (g := gb300) (o := .cells #[.int .i64 a0_0, .slice A0_1 l0_1.length c0_1, .slice A0_2 l0_2.length c0_2] 25 (0, 0)) (by (with_reducible repeat (first | apply bkN | apply bkD | apply bkA)); exact BK300.out)) : gb300 ≠ gb301)); have n6_ := aM ((by rw [hg]; exact Nat.ne_of_gt (blk_lt (g := gb300) (o := .cells #[.int .i64 a0_0, .slice A0_1 l0_1.length c0_1, .slice A0_2 l0_2.length c0_2] 25 (0, 0)) (by (with_reducible repeat (first | apply bkN | apply bkD | apply bkA)); exact BK300.out)) : gb301 ≠ gb300)); clear BK300; clear HB; have BK300 := n0_; have HB := n1_; have BK301 := n2_; have GW301 := n3_; have GE301 := n4_; have NB300_301 := n5_; have NB301_300 := n6_; clear n0_ n1_ n2_ n3_ n4_ n5_ n6_; clear hb hbox hg))
   have n0_ := aM (blk_drew BK300.out)
   have n1_ := aM (blk_drew BK301.out)
   have n2_ := aM (below_drew1 HB.out)
   clear BK300
   clear BK301
   clear HB
   have BK300 := n0_
   have BK301 := n1_
   have HB := n2_
   clear n0_ n1_ n2_
   refine start_ (n := 9) (S := fun w' => w'.cell? ⟨gb300, 0, none⟩ = some (.int .i64 a0_0) ∧ w'.cell? ⟨gb300, 1, none⟩ = some (.slice A0_1 l0_1.length c0_1) ∧ w'.cell? ⟨gb300, 2, none⟩ = some (.slice A0_2 l0_2.length c0_2)) (ds := []) #[false, false, false, false, false, false, false, false, false] (by kernel_rfl) rfl rfl ⟨(blk_cell BK300.out 0).trans rfl, (blk_cell BK300.out 1).trans rfl, (blk_cell BK300.out 2).trans rfl⟩ (fun hHeld => ?_); refine with_tabW r5_Copy.tab1 r5_Copy.bits1 (fun HT_ HW_ => ?_)
   generalize w4.drew = w5 at BK300 BK301 HB hHeld ⊢
   refine pure_ (i := 0) (N := some 6) (v := ?_) (a' := ?_) #[true, false, false, false, false, false, false, false, false] rfl rfl (any_of HT_.out (by kernel_rfl)) (fun _ _ _ h => h) (Or.inl ⟨by rfl, ?_⟩) ?_ ?_
   rotate_left
   · intro w'
     go_simp
     with_reducible rfl
   rotate_left
   · simp only [Act.put, List.setIfInBounds_toArray, List.set_cons_zero, List.set_cons_succ, i64_w, i32_w]
     rfl
   refine pure_ (i := 3) (N := some 9) (v := ?_) (a' := ?_) #[true, false, false, true, false, false, false, false, false] rfl rfl (any_of HT_.out (by kernel_rfl)) (fun _ _ _ h => h) (Or.inl ⟨by rfl, ?_⟩) ?_ ?_
   rotate_left
   · intro w'
     go_simp
     with_reducible rfl
   rotate_left
   · simp only [Act.put, List.setIfInBounds_toArray, List.set_cons_zero, List.set_cons_succ, i64_w, i32_w]
     rfl
   refine take_ (i := 1) (N := some 7) (v := ?_) (a' := ?_) #[true, true, false, true, false, false, false, false, false] rfl rfl (take_ofW HT_.out HW_.out (by kernel_rfl)) (fun _ _ _ h => h) (Or.inl ⟨by rfl, ?_⟩) hHeld ?_ ?_
   rotate_left
   · rintro w' ⟨s0, s1, s2⟩
     go_simp
     with_reducible rfl
   rotate_left
   · simp only [Act.put, List.setIfInBounds_toArray, List.set_cons_zero, List.set_cons_succ, i64_w, i32_w]
     rfl
   refine take_ (i := 4) (N := some 10) (v := ?_) (a' := ?_) #[true, true, false, true, true, false, false, false, false] rfl rfl (take_ofW HT_.out HW_.out (by kernel_rfl)) (fun _ _ _ h => h) (Or.inl ⟨by rfl, ?_⟩) hHeld ?_ ?_
   rotate_left
   · rintro w' ⟨s0, s1, s2⟩
     go_simp
     with_reducible rfl
   rotate_left
   · simp only [Act.put, List.setIfInBounds_toArray, List.set_cons_zero, List.set_cons_succ, i64_w, i32_w]
     rfl
   refine join_ (σ := Value × Value × Nat) 1 #[true, true, true, true, true, true, true, true, false] (fun s_ => [(8, s_.1), (11, s_.2.1), (3, .pointer (some ⟨s_.2.2, 0, none⟩)), (12, .agg #[.int .i64 a0_0, s_.2.1, .slice none 0 0])]) (fun s_ w' => (w'.cell? ⟨gb300, 0, none⟩ = some (.int .i64 a0_0) ∧ w'.cell? ⟨gb300, 1, none⟩ = some (.slice A0_1 l0_1.length c0_1) ∧ w'.cell? ⟨gb300, 2, none⟩ = some (.slice A0_2 l0_2.length c0_2)) ∧ (Kd.R k66 66 w' w.heap.size (fun _ => True) s_.2.1 y305) ∧ (w'.heap[gb300]? = some (.cells #[.int .i64 a0_0, .slice A0_1 l0_1.length c0_1, .slice A0_2 l0_2.length c0_2] 25 (0, 0))) ∧ (w'.heap[gb301]? = some (.cells #[.int .i64 0, .slice none 0 0, .slice none 0 0] 25 (0, 0))) ∧ (w'.heap[s_.2.2]? = some (.cells #[.int .i64 0, .slice none 0 0, .slice none 0 0] 25 (0, 0))) ∧ (w.heap.size ≤ s_.2.2) ∧ (w.heap.size ≤ s_.2.2) ∧ (gb300 ≠ s_.2.2) ∧ (s_.2.2 ≠ gb300) ∧ (gb301 ≠ s_.2.2) ∧ (s_.2.2 ≠ gb301) ∧ (Below w.heap.size w w')) ?_ ?_
   rotate_left
   · intro hCont
     refine two_ (i := 2) (j := 7) (Ni := some 8) (Nj := some 3) #[true, true, true, true, true, false, false, false, false] #[true, true, false, true, true, false, false, true, false] rfl rfl rfl rfl (two_of HT_.out (by kernel_rfl)) (by decide) (by decide) (fun K hK => ?_) (fun K hK => ?_)
     · skip
       refine Kd.R_lit_step k66 _ 66 ?hg (N := 8) ?hd (xs := ([] : List (S66))) (inner := []) (ok := fun _ => True) (okp := fun _ => True) ?hr ?hp (fun _ hk => hk) trivial (Below.refl _ _) (Nat.le_refl _) (by simp) ?_; (case hd => rfl); (case hg => rfl); (case hr => first | (go_simp; done) | (go_simp; rfl)); (case hp => exact (Reps.none _ _))
       intro v303 w6 ho7 hb hg_ hnew_
       clear hg_ hnew_
       (first | rw [← Ny302.out] at ho7 | (simp only [Int.reduceToNat] at ho7; rw [← Ny302.out] at ho7))
       have n0_ := aM (Kd.R_lower ho7 (below_size (by repeat (first | (with_reducible first | exact HB.out | apply blA | apply blN | apply blD | refine bS ?_ GE300.out | refine bS ?_ GE301.out) | exact HB.out))))
       have n1_ := aM (blk_below (g := gb300) (o := .cells #[.int .i64 a0_0, .slice A0_1 l0_1.length c0_1, .slice A0_2 l0_2.length c0_2] 25 (0, 0)) (by (with_reducible repeat (first | apply bkN | apply bkD | apply bkA)); exact BK300.out) hb)
       have n2_ := aM (blk_below (g := gb301) (o := .cells #[.int .i64 0, .slice none 0 0, .slice none 0 0] 25 (0, 0)) (by (with_reducible repeat (first | apply bkN | apply bkD | apply bkA)); exact BK301.out) hb)
       have n3_ := aM (below_step (by repeat (first | (with_reducible first | exact HB.out | apply blA | apply blN | apply blD | refine bS ?_ GE300.out | refine bS ?_ GE301.out) | exact HB.out)) hb)
       clear BK300
       clear BK301
       clear HB
       have HO304 := n0_
       have BK300 := n1_
       have BK301 := n2_
       have HB := n3_
       clear n0_ n1_ n2_ n3_
       clear hb ho7
       refine hK.out _ _ ⟨(blk_cell BK300.out 0).trans rfl, (blk_cell BK300.out 1).trans rfl, (blk_cell BK300.out 2).trans rfl⟩ (fun hHeld => ?_)
       clear hK K
       refine norm_ (a' := ?_) ?_ ?_
       rotate_left
       · show Act.put _ (some 8) _ = _
         simp only [Act.put, List.setIfInBounds_toArray, List.set_cons_zero, List.set_cons_succ, i64_w, i32_w]
         rfl
       refine two_ (i := 5) (j := 7) (Ni := some 11) (Nj := some 3) #[true, true, true, true, true, true, false, false, false] #[true, true, true, true, true, false, false, true, false] rfl rfl rfl rfl (two_of HT_.out (by kernel_rfl)) (by decide) (by decide) (fun K hK => ?_) (fun K hK => ?_)
       · skip
         refine Kd.R_append_rows_step k66 (w0 := w) w.heap.size (by rfl) (.tmp 8) (.tmp 10) 22 66 (.agg #[(.int .u32 0), (.int .u32 0)]) 8 rfl Try.underlying22 info66 rfl (by decide) (by omega) v303 y302 l0_1 _ _ _ (fun _ => True) (fun _ => False) rfl rfl ?aO ?aR (fun _ _ h => h) (fun _ h => h.elim) ?aF ?aB ?aS ?aL ?_
         (case aR => repeat (first | exact (Kd.C_below HR0_1.out HB.out) | (with_reducible refine Kd.C_alloc ?_ _) | (with_reducible refine Kd.C_drewN ?_ _) | (with_reducible refine Kd.C_drew ?_)))
         (case aB => exact (by repeat (first | (with_reducible first | exact HB.out | apply blA | apply blN | apply blD | refine bS ?_ GE300.out | refine bS ?_ GE301.out) | exact HB.out)))
         (case aF => exact (fun _ _ => trivial))
         (case aO => exact (by (with_reducible repeat (first | apply kA | apply kN | apply kD)); exact HO304.out))
         (case aS => exact (below_size (by repeat (first | (with_reducible first | exact HB.out | apply blA | apply blN | apply blD | refine bS ?_ GE300.out | refine bS ?_ GE301.out) | exact HB.out))))
         (case aL => have := LMc2.out; omega)
         intro v306 w8 ho hb hg hat
         rw [← Ny305.out] at ho
         have n0_ := aM (blk_grown (g := gb300) (o := .cells #[.int .i64 a0_0, .slice A0_1 l0_1.length c0_1, .slice A0_2 l0_2.length c0_2] 25 (0, 0)) (by (with_reducible repeat (first | apply bkN | apply bkD | apply bkA)); exact BK300.out) hg (Kd.R_ne HO304.out BK300.out (by decide)))
         have n1_ := aM (blk_grown (g := gb301) (o := .cells #[.int .i64 0, .slice none 0 0, .slice none 0 0] 25 (0, 0)) (by (with_reducible repeat (first | apply bkN | apply bkD | apply bkA)); exact BK301.out) hg (Kd.R_ne HO304.out BK301.out (by decide)))
         have n2_ := aM (hb)
         have n3_ := aM (ho)
         clear BK300
         clear BK301
         clear HB
         clear HO304
         have BK300 := n0_
         have BK301 := n1_
         have HB := n2_
         have HO307 := n3_
         clear n0_ n1_ n2_ n3_
         clear ho hb hg hat
         obtain ⟨Ao9, co9, eo9⟩ := Kd.R_slice HO307.out
         (first | subst eo9 | (injection eo9 with f1_ f2_ f3_; have f4_ := f1_.symm; have f5_ := f3_.symm; clear f1_ f2_ f3_; subst f4_; subst f5_))
         refine hK.out _ _ ⟨(blk_cell BK300.out 0).trans rfl, (blk_cell BK300.out 1).trans rfl, (blk_cell BK300.out 2).trans rfl⟩ (fun hHeld => ?_)
         clear hK K
         refine norm_ (a' := ?_) ?_ ?_
         rotate_left
         · show Act.put _ (some 11) _ = _
           simp only [Act.put, List.setIfInBounds_toArray, List.set_cons_zero, List.set_cons_succ, i64_w, i32_w]
           rfl
         refine pure_ (i := 6) (N := some 12) (v := ?_) (a' := ?_) #[true, true, true, true, true, true, true, false, false] rfl rfl (any_of HT_.out (by kernel_rfl)) (fun _ _ _ h => h) (Or.inl ⟨by rfl, ?_⟩) ?_ ?_
         rotate_left
         · intro w'
           go_simp
           with_reducible rfl
         rotate_left
         · simp only [Act.put, List.setIfInBounds_toArray, List.set_cons_zero, List.set_cons_succ, i64_w, i32_w]
           rfl
         refine one_ (i := 7) (N := some 3) #[true, true, true, true, true, true, true, true, false] rfl rfl (one_of HT_.out (by kernel_rfl)) (by decide) (fun K hK => ?_)
         refine box_step ?hg (N := 3) ?hd (cs := #[.int .i64 0, .slice none 0 0, .slice none 0 0]) (t := 25) ?hr ?_; (case hd => rfl); (case hg => rfl); (case hr => first | (go_simp; done) | (go_simp; rfl))
         intro gb308 hg w10 hbox hb
         have n0_ := aM (Kd.R_below (by (with_reducible repeat (first | apply kA | apply kN | apply kD)); exact HO307.out) hb)
         have n1_ := aM (blk_below (g := gb300) (o := .cells #[.int .i64 a0_0, .slice A0_1 l0_1.length c0_1, .slice A0_2 l0_2.length c0_2] 25 (0, 0)) (by (with_reducible repeat (first | apply bkN | apply bkD | apply bkA)); exact BK300.out) hb)
         have n2_ := aM (blk_below (g := gb301) (o := .cells #[.int .i64 0, .slice none 0 0, .slice none 0 0] 25 (0, 0)) (by (with_reducible repeat (first | apply bkN | apply bkD | apply bkA)); exact BK301.out) hb)
         have n3_ := aM (below_step (by repeat (first | (with_reducible first | exact HB.out | apply blA | apply blN | apply blD | refine bS ?_ GE300.out | refine bS ?_ GE301.out) | exact HB.out)) hb)
         have n4_ := aM (hbox)
         have n5_ := aM ((by rw [hg]; exact (below_size (by repeat (first | (with_reducible first | exact HB.out | apply blA | apply blN | apply blD | refine bS ?_ GE300.out | refine bS ?_ GE301.out) | exact HB.out))) : w.heap.size ≤ gb308))
         have n6_ := aM ((by rw [hg]; exact (below_size (by repeat (first | (with_reducible first | exact HB.out | apply blA | apply blN | apply blD | refine bS ?_ GE300.out | refine bS ?_ GE301.out) | exact HB.out))) : w.heap.size ≤ gb308))
         have n7_ := aM ((by rw [hg]; exact Nat.ne_of_lt (blk_lt (g := gb300) (o := .cells #[.int .i64 a0_0, .slice A0_1 l0_1.length c0_1, .slice A0_2 l0_2.length c0_2] 25 (0, 0)) (by (with_reducible repeat (first | apply bkN | apply bkD | apply bkA)); exact BK300.out)) : gb300 ≠ gb308))
         have n8_ := aM ((by rw [hg]; exact Nat.ne_of_gt (blk_lt (g := gb300) (o := .cells #[.int .i64 a0_0, .slice A0_1 l0_1.length c0_1, .slice A0_2 l0_2.length c0_2] 25 (0, 0)) (by (with_reducible repeat (first | apply bkN | apply bkD | apply bkA)); exact BK300.out)) : gb308 ≠ gb300))
         have n9_ := aM ((by rw [hg]; exact Nat.ne_of_lt (blk_lt (g := gb301) (o := .cells #[.int .i64 0, .slice none 0 0, .slice none 0 0] 25 (0, 0)) (by (with_reducible repeat (first | apply bkN | apply bkD | apply bkA)); exact BK301.out)) : gb301 ≠ gb308))
         have n10_ := aM ((by rw [hg]; exact Nat.ne_of_gt (blk_lt (g := gb301) (o := .cells #[.int .i64 0, .slice none 0 0, .slice none 0 0] 25 (0, 0)) (by (with_reducible repeat (first | apply bkN | apply bkD | apply bkA)); exact BK301.out)) : gb308 ≠ gb301))
         clear HO307
         clear BK300
         clear BK301
         clear HB
         have HO307 := n0_
         have BK300 := n1_
         have BK301 := n2_
         have HB := n3_
         have BK308 := n4_
         have GW308 := n5_
         have GE308 := n6_
         have NB300_308 := n7_
         have NB308_300 := n8_
         have NB301_308 := n9_
         have NB308_301 := n10_
         clear n0_ n1_ n2_ n3_ n4_ n5_ n6_ n7_ n8_ n9_ n10_
         clear hb hbox hg
         refine hK.out _ _ ⟨(blk_cell BK300.out 0).trans rfl, (blk_cell BK300.out 1).trans rfl, (blk_cell BK300.out 2).trans rfl⟩ (fun hHeld => ?_)
         clear hK K
         refine norm_ (a' := ?_) ?_ ?_
         rotate_left
         · show Act.put _ (some 3) _ = _
           simp only [Act.put, List.setIfInBounds_toArray, List.set_cons_zero, List.set_cons_succ, i64_w, i32_w]
           rfl
         exact norm_ (by simp only [putAll, Act.put, List.setIfInBounds_toArray, List.set_cons_zero, List.set_cons_succ]) (hCont (v303, .slice Ao9 y305.length co9, gb308) _ ⟨hHeld, (by (with_reducible repeat (first | apply kA | apply kN | apply kD)); exact HO307.out), (by (with_reducible repeat (first | apply bkN | apply bkD | apply bkA)); exact BK300.out), (by (with_reducible repeat (first | apply bkN | apply bkD | apply bkA)); exact BK301.out), (by (with_reducible repeat (first | apply bkN | apply bkD | apply bkA)); exact BK308.out), GW308.out, GE308.out, NB300_308.out, NB308_300.out, NB301_308.out, NB308_301.out, (by repeat (first | (with_reducible first | exact HB.out | apply blA | apply blN | apply blD | refine bS ?_ GE300.out | refine bS ?_ GE301.out | refine bS ?_ GE308.out) | exact HB.out))⟩)
       · skip
         refine box_step ?hg (N := 3) ?hd (cs := #[.int .i64 0, .slice none 0 0, .slice none 0 0]) (t := 25) ?hr ?_; (case hd => rfl); (case hg => rfl); (case hr => first | (go_simp; done) | (go_simp; rfl))
         intro gb308 hg w8 hbox hb
         have n0_ := aM (Kd.R_below (by (with_reducible repeat (first | apply kA | apply kN | apply kD)); exact HO304.out) hb)
         have n1_ := aM (blk_below (g := gb300) (o := .cells #[.int .i64 a0_0, .slice A0_1 l0_1.length c0_1, .slice A0_2 l0_2.length c0_2] 25 (0, 0)) (by (with_reducible repeat (first | apply bkN | apply bkD | apply bkA)); exact BK300.out) hb)
         have n2_ := aM (blk_below (g := gb301) (o := .cells #[.int .i64 0, .slice none 0 0, .slice none 0 0] 25 (0, 0)) (by (with_reducible repeat (first | apply bkN | apply bkD | apply bkA)); exact BK301.out) hb)
         have n3_ := aM (below_step (by repeat (first | (with_reducible first | exact HB.out | apply blA | apply blN | apply blD | refine bS ?_ GE300.out | refine bS ?_ GE301.out) | exact HB.out)) hb)
         have n4_ := aM (hbox)
         have n5_ := aM ((by rw [hg]; exact (below_size (by repeat (first | (with_reducible first | exact HB.out | apply blA | apply blN | apply blD | refine bS ?_ GE300.out | refine bS ?_ GE301.out) | exact HB.out))) : w.heap.size ≤ gb308))
         have n6_ := aM ((by rw [hg]; exact (below_size (by repeat (first | (with_reducible first | exact HB.out | apply blA | apply blN | apply blD | refine bS ?_ GE300.out | refine bS ?_ GE301.out) | exact HB.out))) : w.heap.size ≤ gb308))
         have n7_ := aM ((by rw [hg]; exact Nat.ne_of_lt (blk_lt (g := gb300) (o := .cells #[.int .i64 a0_0, .slice A0_1 l0_1.length c0_1, .slice A0_2 l0_2.length c0_2] 25 (0, 0)) (by (with_reducible repeat (first | apply bkN | apply bkD | apply bkA)); exact BK300.out)) : gb300 ≠ gb308))
         have n8_ := aM ((by rw [hg]; exact Nat.ne_of_gt (blk_lt (g := gb300) (o := .cells #[.int .i64 a0_0, .slice A0_1 l0_1.length c0_1, .slice A0_2 l0_2.length c0_2] 25 (0, 0)) (by (with_reducible repeat (first | apply bkN | apply bkD | apply bkA)); exact BK300.out)) : gb308 ≠ gb300))
         have n9_ := aM ((by rw [hg]; exact Nat.ne_of_lt (blk_lt (g := gb301) (o := .cells #[.int .i64 0, .slice none 0 0, .slice none 0 0] 25 (0, 0)) (by (with_reducible repeat (first | apply bkN | apply bkD | apply bkA)); exact BK301.out)) : gb301 ≠ gb308))
         have n10_ := aM ((by rw [hg]; exact Nat.ne_of_gt (blk_lt (g := gb301) (o := .cells #[.int .i64 0, .slice none 0 0, .slice none 0 0] 25 (0, 0)) (by (with_reducible repeat (first | apply bkN | apply bkD | apply bkA)); exact BK301.out)) : gb308 ≠ gb301))
         clear HO304
         clear BK300
         clear BK301
         clear HB
         have HO304 := n0_
         have BK300 := n1_
         have BK301 := n2_
         have HB := n3_
         have BK308 := n4_
         have GW308 := n5_
         have GE308 := n6_
         have NB300_308 := n7_
         have NB308_300 := n8_
         have NB301_308 := n9_
         have NB308_301 := n10_
         clear n0_ n1_ n2_ n3_ n4_ n5_ n6_ n7_ n8_ n9_ n10_
         clear hb hbox hg
         refine hK.out _ _ ⟨(blk_cell BK300.out 0).trans rfl, (blk_cell BK300.out 1).trans rfl, (blk_cell BK300.out 2).trans rfl⟩ (fun hHeld => ?_)
         clear hK K
         refine norm_ (a' := ?_) ?_ ?_
         rotate_left
         · show Act.put _ (some 3) _ = _
           simp only [Act.put, List.setIfInBounds_toArray, List.set_cons_zero, List.set_cons_succ, i64_w, i32_w]
           rfl
         refine one_ (i := 5) (N := some 11) #[true, true, true, true, true, true, false, true, false] rfl rfl (one_of HT_.out (by kernel_rfl)) (by decide) (fun K hK => ?_)
         refine Kd.R_append_rows_step k66 (w0 := w) w.heap.size (by rfl) (.tmp 8) (.tmp 10) 22 66 (.agg #[(.int .u32 0), (.int .u32 0)]) 8 rfl Try.underlying22 info66 rfl (by decide) (by omega) v303 y302 l0_1 _ _ _ (fun _ => True) (fun _ => False) rfl rfl ?aO ?aR (fun _ _ h => h) (fun _ h => h.elim) ?aF ?aB ?aS ?aL ?_
         (case aR => repeat (first | exact (Kd.C_below HR0_1.out HB.out) | (with_reducible refine Kd.C_alloc ?_ _) | (with_reducible refine Kd.C_drewN ?_ _) | (with_reducible refine Kd.C_drew ?_)))
         (case aB => exact (by repeat (first | (with_reducible first | exact HB.out | apply blA | apply blN | apply blD | refine bS ?_ GE300.out | refine bS ?_ GE301.out | refine bS ?_ GE308.out) | exact HB.out)))
         (case aF => exact (fun _ _ => trivial))
         (case aO => exact (by (with_reducible repeat (first | apply kA | apply kN | apply kD)); exact HO304.out))
         (case aS => exact (below_size (by repeat (first | (with_reducible first | exact HB.out | apply blA | apply blN | apply blD | refine bS ?_ GE300.out | refine bS ?_ GE301.out | refine bS ?_ GE308.out) | exact HB.out))))
         (case aL => have := LMc2.out; omega)
         intro v306 w9 ho hb hg hat
         rw [← Ny305.out] at ho
         have n0_ := aM (blk_grown (g := gb300) (o := .cells #[.int .i64 a0_0, .slice A0_1 l0_1.length c0_1, .slice A0_2 l0_2.length c0_2] 25 (0, 0)) (by (with_reducible repeat (first | apply bkN | apply bkD | apply bkA)); exact BK300.out) hg (Kd.R_ne HO304.out BK300.out (by decide)))
         have n1_ := aM (blk_grown (g := gb301) (o := .cells #[.int .i64 0, .slice none 0 0, .slice none 0 0] 25 (0, 0)) (by (with_reducible repeat (first | apply bkN | apply bkD | apply bkA)); exact BK301.out) hg (Kd.R_ne HO304.out BK301.out (by decide)))
         have n2_ := aM (blk_grown (g := gb308) (o := .cells #[.int .i64 0, .slice none 0 0, .slice none 0 0] 25 (0, 0)) (by (with_reducible repeat (first | apply bkN | apply bkD | apply bkA)); exact BK308.out) hg (Kd.R_ne HO304.out BK308.out (by decide)))
         have n3_ := aM (hb)
         have n4_ := aM (ho)
         clear BK300
         clear BK301
         clear BK308
         clear HB
         clear HO304
         have BK300 := n0_
         have BK301 := n1_
         have BK308 := n2_
         have HB := n3_
         have HO307 := n4_
         clear n0_ n1_ n2_ n3_ n4_
         clear ho hb hg hat
         obtain ⟨Ao10, co10, eo10⟩ := Kd.R_slice HO307.out
         (first | subst eo10 | (injection eo10 with f1_ f2_ f3_; have f4_ := f1_.symm; have f5_ := f3_.symm; clear f1_ f2_ f3_; subst f4_; subst f5_))
         refine hK.out _ _ ⟨(blk_cell BK300.out 0).trans rfl, (blk_cell BK300.out 1).trans rfl, (blk_cell BK300.out 2).trans rfl⟩ (fun hHeld => ?_)
         clear hK K
         refine norm_ (a' := ?_) ?_ ?_
         rotate_left
         · show Act.put _ (some 11) _ = _
           simp only [Act.put, List.setIfInBounds_toArray, List.set_cons_zero, List.set_cons_succ, i64_w, i32_w]
           rfl
         refine pure_ (i := 6) (N := some 12) (v := ?_) (a' := ?_) #[true, true, true, true, true, true, true, true, false] rfl rfl (any_of HT_.out (by kernel_rfl)) (fun _ _ _ h => h) (Or.inl ⟨by rfl, ?_⟩) ?_ ?_
         rotate_left
         · intro w'
           go_simp
           with_reducible rfl
         rotate_left
         · simp only [Act.put, List.setIfInBounds_toArray, List.set_cons_zero, List.set_cons_succ, i64_w, i32_w]
           rfl
         exact norm_ (by simp only [putAll, Act.put, List.setIfInBounds_toArray, List.set_cons_zero, List.set_cons_succ]) (hCont (v303, .slice Ao10 y305.length co10, gb308) _ ⟨hHeld, (by (with_reducible repeat (first | apply kA | apply kN | apply kD)); exact HO307.out), (by (with_reducible repeat (first | apply bkN | apply bkD | apply bkA)); exact BK300.out), (by (with_reducible repeat (first | apply bkN | apply bkD | apply bkA)); exact BK301.out), (by (with_reducible repeat (first | apply bkN | apply bkD | apply bkA)); exact BK308.out), GW308.out, GE308.out, NB300_308.out, NB308_300.out, NB301_308.out, NB308_301.out, (by repeat (first | (with_reducible first | exact HB.out | apply blA | apply blN | apply blD | refine bS ?_ GE300.out | refine bS ?_ GE301.out | refine bS ?_ GE308.out) | exact HB.out))⟩)
     · skip
       refine box_step ?hg (N := 3) ?hd (cs := #[.int .i64 0, .slice none 0 0, .slice none 0 0]) (t := 25) ?hr ?_; (case hd => rfl); (case hg => rfl); (case hr => first | (go_simp; done) | (go_simp; rfl))
       intro gb308 hg w6 hbox hb
       have n0_ := aM (blk_below (g := gb300) (o := .cells #[.int .i64 a0_0, .slice A0_1 l0_1.length c0_1, .slice A0_2 l0_2.length c0_2] 25 (0, 0)) (by (with_reducible repeat (first | apply bkN | apply bkD | apply bkA)); exact BK300.out) hb)
       have n1_ := aM (blk_below (g := gb301) (o := .cells #[.int .i64 0, .slice none 0 0, .slice none 0 0] 25 (0, 0)) (by (with_reducible repeat (first | apply bkN | apply bkD | apply bkA)); exact BK301.out) hb)
       have n2_ := aM (below_step (by repeat (first | (with_reducible first | exact HB.out | apply blA | apply blN | apply blD | refine bS ?_ GE300.out | refine bS ?_ GE301.out) | exact HB.out)) hb)
       have n3_ := aM (hbox)
       have n4_ := aM ((by rw [hg]; exact (below_size (by repeat (first | (with_reducible first | exact HB.out | apply blA | apply blN | apply blD | refine bS ?_ GE300.out | refine bS ?_ GE301.out) | exact HB.out))) : w.heap.size ≤ gb308))
       have n5_ := aM ((by rw [hg]; exact (below_size (by repeat (first | (with_reducible first | exact HB.out | apply blA | apply blN | apply blD | refine bS ?_ GE300.out | refine bS ?_ GE301.out) | exact HB.out))) : w.heap.size ≤ gb308))
       have n6_ := aM ((by rw [hg]; exact Nat.ne_of_lt (blk_lt (g := gb300) (o := .cells #[.int .i64 a0_0, .slice A0_1 l0_1.length c0_1, .slice A0_2 l0_2.length c0_2] 25 (0, 0)) (by (with_reducible repeat (first | apply bkN | apply bkD | apply bkA)); exact BK300.out)) : gb300 ≠ gb308))
       have n7_ := aM ((by rw [hg]; exact Nat.ne_of_gt (blk_lt (g := gb300) (o := .cells #[.int .i64 a0_0, .slice A0_1 l0_1.length c0_1, .slice A0_2 l0_2.length c0_2] 25 (0, 0)) (by (with_reducible repeat (first | apply bkN | apply bkD | apply bkA)); exact BK300.out)) : gb308 ≠ gb300))
       have n8_ := aM ((by rw [hg]; exact Nat.ne_of_lt (blk_lt (g := gb301) (o := .cells #[.int .i64 0, .slice none 0 0, .slice none 0 0] 25 (0, 0)) (by (with_reducible repeat (first | apply bkN | apply bkD | apply bkA)); exact BK301.out)) : gb301 ≠ gb308))
       have n9_ := aM ((by rw [hg]; exact Nat.ne_of_gt (blk_lt (g := gb301) (o := .cells #[.int .i64 0, .slice none 0 0, .slice none 0 0] 25 (0, 0)) (by (with_reducible repeat (first | apply bkN | apply bkD | apply bkA)); exact BK301.out)) : gb308 ≠ gb301))
       clear BK300
       clear BK301
       clear HB
       have BK300 := n0_
       have BK301 := n1_
       have HB := n2_
       have BK308 := n3_
       have GW308 := n4_
       have GE308 := n5_
       have NB300_308 := n6_
       have NB308_300 := n7_
       have NB301_308 := n8_
       have NB308_301 := n9_
       clear n0_ n1_ n2_ n3_ n4_ n5_ n6_ n7_ n8_ n9_
       clear hb hbox hg
       refine hK.out _ _ ⟨(blk_cell BK300.out 0).trans rfl, (blk_cell BK300.out 1).trans rfl, (blk_cell BK300.out 2).trans rfl⟩ (fun hHeld => ?_)
       clear hK K
       refine norm_ (a' := ?_) ?_ ?_
       rotate_left
       · show Act.put _ (some 3) _ = _
         simp only [Act.put, List.setIfInBounds_toArray, List.set_cons_zero, List.set_cons_succ, i64_w, i32_w]
         rfl
       refine one_ (i := 2) (N := some 8) #[true, true, true, true, true, false, false, true, false] rfl rfl (one_of HT_.out (by kernel_rfl)) (by decide) (fun K hK => ?_)
       refine Kd.R_lit_step k66 _ 66 ?hg (N := 8) ?hd (xs := ([] : List (S66))) (inner := []) (ok := fun _ => True) (okp := fun _ => True) ?hr ?hp (fun _ hk => hk) trivial (Below.refl _ _) (Nat.le_refl _) (by simp) ?_; (case hd => rfl); (case hg => rfl); (case hr => first | (go_simp; done) | (go_simp; rfl)); (case hp => exact (Reps.none _ _))
       intro v303 w7 ho8 hb hg_ hnew_
       clear hg_ hnew_
       (first | rw [← Ny302.out] at ho8 | (simp only [Int.reduceToNat] at ho8; rw [← Ny302.out] at ho8))
       have n0_ := aM (Kd.R_lower ho8 (below_size (by repeat (first | (with_reducible first | exact HB.out | apply blA | apply blN | apply blD | refine bS ?_ GE300.out | refine bS ?_ GE301.out | refine bS ?_ GE308.out) | exact HB.out))))
       have n1_ := aM (blk_below (g := gb300) (o := .cells #[.int .i64 a0_0, .slice A0_1 l0_1.length c0_1, .slice A0_2 l0_2.length c0_2] 25 (0, 0)) (by (with_reducible repeat (first | apply bkN | apply bkD | apply bkA)); exact BK300.out) hb)
       have n2_ := aM (blk_below (g := gb301) (o := .cells #[.int .i64 0, .slice none 0 0, .slice none 0 0] 25 (0, 0)) (by (with_reducible repeat (first | apply bkN | apply bkD | apply bkA)); exact BK301.out) hb)
       have n3_ := aM (blk_below (g := gb308) (o := .cells #[.int .i64 0, .slice none 0 0, .slice none 0 0] 25 (0, 0)) (by (with_reducible repeat (first | apply bkN | apply bkD | apply bkA)); exact BK308.out) hb)
       have n4_ := aM (below_step (by repeat (first | (with_reducible first | exact HB.out | apply blA | apply blN | apply blD | refine bS ?_ GE300.out | refine bS ?_ GE301.out | refine bS ?_ GE308.out) | exact HB.out)) hb)
       clear BK300
       clear BK301
       clear BK308
       clear HB
       have HO304 := n0_
       have BK300 := n1_
       have BK301 := n2_
       have BK308 := n3_
       have HB := n4_
       clear n0_ n1_ n2_ n3_ n4_
       clear hb ho8
       refine hK.out _ _ ⟨(blk_cell BK300.out 0).trans rfl, (blk_cell BK300.out 1).trans rfl, (blk_cell BK300.out 2).trans rfl⟩ (fun hHeld => ?_)
       clear hK K
       refine norm_ (a' := ?_) ?_ ?_
       rotate_left
       · show Act.put _ (some 8) _ = _
         simp only [Act.put, List.setIfInBounds_toArray, List.set_cons_zero, List.set_cons_succ, i64_w, i32_w]
         rfl
       refine one_ (i := 5) (N := some 11) #[true, true, true, true, true, true, false, true, false] rfl rfl (one_of HT_.out (by kernel_rfl)) (by decide) (fun K hK => ?_)
       refine Kd.R_append_rows_step k66 (w0 := w) w.heap.size (by rfl) (.tmp 8) (.tmp 10) 22 66 (.agg #[(.int .u32 0), (.int .u32 0)]) 8 rfl Try.underlying22 info66 rfl (by decide) (by omega) v303 y302 l0_1 _ _ _ (fun _ => True) (fun _ => False) rfl rfl ?aO ?aR (fun _ _ h => h) (fun _ h => h.elim) ?aF ?aB ?aS ?aL ?_
       (case aR => repeat (first | exact (Kd.C_below HR0_1.out HB.out) | (with_reducible refine Kd.C_alloc ?_ _) | (with_reducible refine Kd.C_drewN ?_ _) | (with_reducible refine Kd.C_drew ?_)))
       (case aB => exact (by repeat (first | (with_reducible first | exact HB.out | apply blA | apply blN | apply blD | refine bS ?_ GE300.out | refine bS ?_ GE301.out | refine bS ?_ GE308.out) | exact HB.out)))
       (case aF => exact (fun _ _ => trivial))
       (case aO => exact (by (with_reducible repeat (first | apply kA | apply kN | apply kD)); exact HO304.out))
       (case aS => exact (below_size (by repeat (first | (with_reducible first | exact HB.out | apply blA | apply blN | apply blD | refine bS ?_ GE300.out | refine bS ?_ GE301.out | refine bS ?_ GE308.out) | exact HB.out))))
       (case aL => have := LMc2.out; omega)
       intro v306 w9 ho hb hg hat
       rw [← Ny305.out] at ho
       have n0_ := aM (blk_grown (g := gb300) (o := .cells #[.int .i64 a0_0, .slice A0_1 l0_1.length c0_1, .slice A0_2 l0_2.length c0_2] 25 (0, 0)) (by (with_reducible repeat (first | apply bkN | apply bkD | apply bkA)); exact BK300.out) hg (Kd.R_ne HO304.out BK300.out (by decide)))
       have n1_ := aM (blk_grown (g := gb301) (o := .cells #[.int .i64 0, .slice none 0 0, .slice none 0 0] 25 (0, 0)) (by (with_reducible repeat (first | apply bkN | apply bkD | apply bkA)); exact BK301.out) hg (Kd.R_ne HO304.out BK301.out (by decide)))
       have n2_ := aM (blk_grown (g := gb308) (o := .cells #[.int .i64 0, .slice none 0 0, .slice none 0 0] 25 (0, 0)) (by (with_reducible repeat (first | apply bkN | apply bkD | apply bkA)); exact BK308.out) hg (Kd.R_ne HO304.out BK308.out (by decide)))
       have n3_ := aM (hb)
       have n4_ := aM (ho)
       clear BK300
       clear BK301
       clear BK308
       clear HB
       clear HO304
       have BK300 := n0_
       have BK301 := n1_
       have BK308 := n2_
       have HB := n3_
       have HO307 := n4_
       clear n0_ n1_ n2_ n3_ n4_
       clear ho hb hg hat
       obtain ⟨Ao10, co10, eo10⟩ := Kd.R_slice HO307.out
       (first | subst eo10 | (injection eo10 with f1_ f2_ f3_; have f4_ := f1_.symm; have f5_ := f3_.symm; clear f1_ f2_ f3_; subst f4_; subst f5_))
       refine hK.out _ _ ⟨(blk_cell BK300.out 0).trans rfl, (blk_cell BK300.out 1).trans rfl, (blk_cell BK300.out 2).trans rfl⟩ (fun hHeld => ?_)
       clear hK K
       refine norm_ (a' := ?_) ?_ ?_
       rotate_left
       · show Act.put _ (some 11) _ = _
         simp only [Act.put, List.setIfInBounds_toArray, List.set_cons_zero, List.set_cons_succ, i64_w, i32_w]
         rfl
       refine pure_ (i := 6) (N := some 12) (v := ?_) (a' := ?_) #[true, true, true, true, true, true, true, true, false] rfl rfl (any_of HT_.out (by kernel_rfl)) (fun _ _ _ h => h) (Or.inl ⟨by rfl, ?_⟩) ?_ ?_
       rotate_left
       · intro w'
         go_simp
         with_reducible rfl
       rotate_left
       · simp only [Act.put, List.setIfInBounds_toArray, List.set_cons_zero, List.set_cons_succ, i64_w, i32_w]
         rfl
       exact norm_ (by simp only [putAll, Act.put, List.setIfInBounds_toArray, List.set_cons_zero, List.set_cons_succ]) (hCont (v303, .slice Ao10 y305.length co10, gb308) _ ⟨hHeld, (by (with_reducible repeat (first | apply kA | apply kN | apply kD)); exact HO307.out), (by (with_reducible repeat (first | apply bkN | apply bkD | apply bkA)); exact BK300.out), (by (with_reducible repeat (first | apply bkN | apply bkD | apply bkA)); exact BK301.out), (by (with_reducible repeat (first | apply bkN | apply bkD | apply bkA)); exact BK308.out), GW308.out, GE308.out, NB300_308.out, NB308_300.out, NB301_308.out, NB308_301.out, (by repeat (first | (with_reducible first | exact HB.out | apply blA | apply blN | apply blD | refine bS ?_ GE300.out | refine bS ?_ GE301.out | refine bS ?_ GE308.out) | exact HB.out))⟩)
   rintro ⟨v303, v306, gb308⟩ w11 ⟨hS_, h0_, h1_, h2_, h3_, h4_, h5_, h6_, h7_, h8_, h9_, h10_⟩
   have n0_ : Aside0 (Kd.R k66 66 w11 w.heap.size (fun _ => True) v306 y305) := ⟨h0_⟩
   have n1_ : Aside0 (w11.heap[gb300]? = some (.cells #[.int .i64 a0_0, .slice A0_1 l0_1.length c0_1, .slice A0_2 l0_2.length c0_2] 25 (0, 0))) := ⟨h1_⟩
   have n2_ : Aside0 (w11.heap[gb301]? = some (.cells #[.int .i64 0, .slice none 0 0, .slice none 0 0] 25 (0, 0))) := ⟨h2_⟩
   have n3_ : Aside0 (w11.heap[gb308]? = some (.cells #[.int .i64 0, .slice none 0 0, .slice none 0 0] 25 (0, 0))) := ⟨h3_⟩
   have n4_ : Aside0 (w.heap.size ≤ gb308) := ⟨h4_⟩
   have n5_ : Aside0 (w.heap.size ≤ gb308) := ⟨h5_⟩
   have n6_ : Aside0 (gb300 ≠ gb308) := ⟨h6_⟩
   have n7_ : Aside0 (gb308 ≠ gb300) := ⟨h7_⟩
   have n8_ : Aside0 (gb301 ≠ gb308) := ⟨h8_⟩
   have n9_ : Aside0 (gb308 ≠ gb301) := ⟨h9_⟩
   have n10_ : Aside0 (Below w.heap.size w w11) := ⟨h10_⟩
   clear BK300
   clear BK301
   clear HB
   clear h0_ h1_ h2_ h3_ h4_ h5_ h6_ h7_ h8_ h9_ h10_
   have HO307 := n0_
   have BK300 := n1_
   have BK301 := n2_
   have BK308 := n3_
   have GW308 := n4_
   have GE308 := n5_
   have NB300_308 := n6_
   have NB308_300 := n7_
   have NB301_308 := n8_
   have NB308_301 := n9_
   have HB := n10_
   clear n0_ n1_ n2_ n3_ n4_ n5_ n6_ n7_ n8_ n9_ n10_
   have hHeld : w11.cell? ⟨gb300, 0, none⟩ = some (.int .i64 a0_0) ∧ w11.cell? ⟨gb300, 1, none⟩ = some (.slice A0_1 l0_1.length c0_1) ∧ w11.cell? ⟨gb300, 2, none⟩ = some (.slice A0_2 l0_2.length c0_2) := hS_
   obtain ⟨Ao12, co12, eo12⟩ := Kd.R_slice HO307.out
   (first | subst eo12 | (injection eo12 with f1_ f2_ f3_; have f4_ := f1_.symm; have f5_ := f3_.symm; clear f1_ f2_ f3_; subst f4_; subst f5_))
   refine norm_ (a' := ?_) ?_ ?_
   rotate_left
   · simp only [putAll, Act.put, List.setIfInBounds_toArray, List.set_cons_zero, List.set_cons_succ]
     rfl
   refine one_ (i := 8) (N := none) #[true, true, true, true, true, true, true, true, true] rfl rfl (one_of HT_.out (by kernel_rfl)) (by decide) (fun K hK => ?_)
   have hs13 : w11.cell? ⟨gb308, 0, none⟩ = some (.int .i64 0) := (blk_cell BK308.out 0).trans rfl
   have hfs13 := bF BK308.out 0
   have hns13_0 := NB300_308.out
   have hns13_1 := NB301_308.out
   have hms13_0 := NB308_300.out
   have hms13_1 := NB308_301.out
   have hs14 : w11.cell? ⟨gb308, 1, none⟩ = some (.slice none 0 0) := (blk_cell BK308.out 1).trans rfl
   have hfs14 := bF BK308.out 1
   have hns14_0 := NB300_308.out
   have hns14_1 := NB301_308.out
   have hms14_0 := NB308_300.out
   have hms14_1 := NB308_301.out
   have hs15 : w11.cell? ⟨gb308, 2, none⟩ = some (.slice none 0 0) := (blk_cell BK308.out 2).trans rfl
   have hfs15 := bF BK308.out 2
   have hns15_0 := NB300_308.out
   have hns15_1 := NB301_308.out
   have hms15_0 := NB308_300.out
   have hms15_1 := NB308_301.out
   refine skip_ (w1 := ?_) (by rfl) rfl ?_ ?_
   rotate_left
   · go_simp
     rfl
   refine hK.out _ _ ⟨((cell_far (p := ⟨gb308, _, none⟩) NB300_308.out _).trans (((cell_far (p := ⟨gb308, _, none⟩) NB300_308.out _).trans (((cell_far (p := ⟨gb308, _, none⟩) NB300_308.out _).trans (hHeld.1)))))), ((cell_far (p := ⟨gb308, _, none⟩) NB300_308.out _).trans (((cell_far (p := ⟨gb308, _, none⟩) NB300_308.out _).trans (((cell_far (p := ⟨gb308, _, none⟩) NB300_308.out _).trans (hHeld.2.1)))))), ((cell_far (p := ⟨gb308, _, none⟩) NB300_308.out _).trans (((cell_far (p := ⟨gb308, _, none⟩) NB300_308.out _).trans (((cell_far (p := ⟨gb308, _, none⟩) NB300_308.out _).trans (hHeld.2.2))))))⟩ (fun hHeld => ?_)
   clear hK K
   refine done_ (done_of HT_.out (by kernel_rfl)) ?_
   have hnb16 := NB300_301.out
   have hnc16 := NB301_300.out
   have hnb17 := NB300_308.out
   have hnc17 := NB308_300.out
   have hcz18_0 : w11.cell? ⟨gb300, 0, none⟩ = some (.int .i64 a0_0) := (blk_cell BK300.out 0).trans rfl
   have hcz18_1 : w11.cell? ⟨gb300, 1, none⟩ = some (.slice A0_1 l0_1.length c0_1) := (blk_cell BK300.out 1).trans rfl
   have hcz18_2 : w11.cell? ⟨gb300, 2, none⟩ = some (.slice A0_2 l0_2.length c0_2) := (blk_cell BK300.out 2).trans rfl
   have hfz18_0 := bF BK300.out 0
   have hfz18_1 := bF BK300.out 1
   have hfz18_2 := bF BK300.out 2
   try go_wp2
   go_loopg [16] k (fun kq v16 w' => ∃ (x16_1 : Int) (x309002_1 : List (S25)) (u309002 : Value), v16 = .int .i64 x16_1 ∧ Aside0 (r5_Copy.l0 kq l0_2 (l0_2.length : Int) x16_1 a0_0 y305 x309002_1 = some (r1, r2, r3)) ∧ Aside0 (kq ≤ k) ∧ Aside0 (Kd.R k66 66 w' w.heap.size (fun _ => True) (.slice Ao12 y305.length co12) y305) ∧ Aside0 (Kd.R k25 25 w' w.heap.size (fun k_ => some k_ ≠ ((.slice Ao12 y305.length co12) : Value).ownBlock ∧ k_ ≠ gb300 ∧ k_ ≠ gb301 ∧ k_ ≠ gb308) u309002 x309002_1) ∧ Aside0 (w'.heap[gb300]? = some (.cells #[.int .i64 a0_0, (.slice A0_1 l0_1.length c0_1), (.slice A0_2 l0_2.length c0_2)] 25 (0, 0))) ∧ Aside0 (w'.heap[gb301]? = some (.cells #[.int .i64 0, (.slice none 0 0), (.slice none 0 0)] 25 (0, 0))) ∧ Aside0 (w'.heap[gb308]? = some (.cells #[.int .i64 a0_0, (.slice Ao12 y305.length co12), u309002] 25 (0, 0))) ∧ Aside0 (Below w.heap.size w w'))
   case atStart => exact ⟨(0), (([] : List (S25))), (.slice none 0 0), (by first | rfl | (simp; done) | (simp [*]; done)), H', ⟨Nat.le_refl _⟩, ⟨by (with_reducible repeat (first | apply kA | apply kN | apply kD)); exact Kd.R_mono (Kd.R_far (p := ⟨gb308, 2, none⟩) (Kd.R_far (p := ⟨gb308, 1, none⟩) (Kd.R_far (p := ⟨gb308, 0, none⟩) (Kd.R_types HO307.out BK308.out (by decide)) (fun _ hk => hk.2) (.int .i64 a0_0)) (fun _ hk => hk.2) (.slice Ao12 y305.length co12)) (fun _ hk => hk.2) (.slice none 0 0)) (fun _ hk => trivial)⟩, ⟨by first | exact Kd.R_nil _ _ _ _ _ | exact Kd.N_nil _ _ _ _ _ | exact Kd.V_nil _ _ _ _ _ | exact Kd.Q_nil _ _ _ _ _ | exact Kd.S_nil _ _ _ _ _⟩, ⟨by (with_reducible repeat (first | apply bkN | apply bkD | apply bkA)); refine blk_far ?_ NB300_308.out _; (with_reducible repeat (first | apply bkN | apply bkD | apply bkA)); refine blk_far ?_ NB300_308.out _; (with_reducible repeat (first | apply bkN | apply bkD | apply bkA)); refine blk_far ?_ NB300_308.out _; (with_reducible repeat (first | apply bkN | apply bkD | apply bkA)); exact BK300.out⟩, ⟨by (with_reducible repeat (first | apply bkN | apply bkD | apply bkA)); refine blk_far ?_ NB301_308.out _; (with_reducible repeat (first | apply bkN | apply bkD | apply bkA)); refine blk_far ?_ NB301_308.out _; (with_reducible repeat (first | apply bkN | apply bkD | apply bkA)); refine blk_far ?_ NB301_308.out _; (with_reducible repeat (first | apply bkN | apply bkD | apply bkA)); exact BK301.out⟩, ⟨by (with_reducible repeat (first | apply bkN | apply bkD | apply bkA)); refine blk_put (cs := #[.int .i64 a0_0, .slice Ao12 y305.length co12, .slice none 0 0]) ?_ 2 _ rfl; (with_reducible repeat (first | apply bkN | apply bkD | apply bkA)); refine blk_put (cs := #[.int .i64 a0_0, .slice none 0 0, .slice none 0 0]) ?_ 1 _ rfl; (with_reducible repeat (first | apply bkN | apply bkD | apply bkA)); refine blk_put (cs := #[.int .i64 0, .slice none 0 0, .slice none 0 0]) ?_ 0 _ rfl; (with_reducible repeat (first | apply bkN | apply bkD | apply bkA)); exact BK308.out⟩, ⟨by repeat (first | (with_reducible first | exact HB.out | apply blA | apply blN | apply blD | refine bS ?_ GE300.out | refine bS ?_ GE301.out | refine bS ?_ GE308.out) | exact HB.out)⟩⟩
   case round =>
    clear H'
    obtain ⟨x16_1, x309002_1, u309002, rfl, HA, HK1, HO_309001, HO_309002, BK300, BK301, BK308, HB⟩ := hrel
    cases gk with
    | zero => exact absurd HA.out (by simp [r5_Copy.l0])
    | succ k1 =>
     have H := HA.out
     clear HA
     simp only [r5_Copy.l0] at H
     by_cases c19 : x16_1 < (l0_2.length : Int)
     · rw [if_pos c19] at H
       have c19b0 : decide (x16_1 < (l0_2.length : Int)) = true := decide_eq_true c19
       clear c19
       by_cases c20 : 0 ≤ x16_1
       · rw [if_pos c20] at H
         have c20b0 : decide (0 ≤ x16_1) = true := decide_eq_true c20
         clear c20
         by_cases c21 : x16_1 < (l0_2.length : Int)
         · rw [if_pos c21] at H
           have c21b0 : decide (x16_1 < (l0_2.length : Int)) = true := decide_eq_true c21
           clear c21
           replace H := Option.bind_eq_some_iff.mp H
           obtain ⟨⟨t311, t312, t315⟩, A220, H⟩ := H
           replace H : (if x309002_1.length < 2513169434916 then (r5_Copy.l0 k1 l0_2 (l0_2.length : Int) (wrap64 (x16_1 + 1)) a0_0 y305 (x309002_1 ++ [(⟨t311, t312, t315⟩ : S25)])) else (none)) = some (r1, r2, r3) := H
           have A22 := aM A220
           clear A220
           by_cases c23 : x309002_1.length < 2513169434916
           · rw [if_pos c23] at H
             have LMc23 := aM c23
             clear c23
             obtain ⟨y318, hy318⟩ : ∃ y_ : List (S25), y_ = (x309002_1 ++ [(⟨t311, t312, t315⟩ : S25)]) := ⟨_, rfl⟩
             replace H : (r5_Copy.l0 k1 l0_2 (l0_2.length : Int) (wrap64 (x16_1 + 1)) a0_0 y305 y318) = some (r1, r2, r3) := by first | (rw [hy318]; with_reducible exact H) | (have H2_ := (Option.bind_some _ _).symm.trans H; rw [hy318]; with_reducible exact H2_) | (have H2_ := (Option.bind_some _ _).symm.trans H; with_reducible exact H2_) | with_reducible exact H | (rw [hy318]; exact H) | exact H
             have Ny318 := aM hy318
             clear hy318
             have H' := aM H
             clear H
             have p309 : 0 ≤ (x16_1 : Int) := of_decide_eq_true (by first | (with_reducible assumption) | assumption)
             have q309 : x16_1 < (l0_2.length : Int) := of_decide_eq_true (by first | (with_reducible assumption) | assumption)
             obtain ⟨ad309, A309_1, c309_1, A309_2, c309_2, e309, hx309_0, hx309_1, hx309_2, hl309_1, hi309_1, hl309_2, hi309_2⟩ := at_T25 HR0_2.out x16_1 p309 q309
             cases e309
             replace hx309_0 := (HB.out.cell (World.block_lt_of_cell? w _ hx309_0)).trans hx309_0
             replace hx309_1 := (HB.out.cell (World.block_lt_of_cell? w _ hx309_1)).trans hx309_1
             replace hx309_2 := (HB.out.cell (World.block_lt_of_cell? w _ hx309_2)).trans hx309_2
             have HR309_1 := aM hi309_1
             have HC309_1 := aM hl309_1
             clear hi309_1 hl309_1
             have HR309_2 := aM hi309_2
             have HC309_2 := aM hl309_2
             clear hi309_2 hl309_2
             replace p309 := eq_true p309
             replace q309 := eq_true q309
             try go_wp2_with (first | ((with_reducible refine gate_dst (N := 5) rfl ?_); refine box_event ?hg (N := 5) ?hd (cs := #[.int .i64 0, .slice none 0 0, .slice none 0 0]) (t := 25) ?hr ?_; (case hd => rfl); (case hg => rfl); (case hr => first | (go_simp; done) | (go_simp; rfl)); intro gb310 hg w24 hbox hb; have n0_ := aM (Kd.R_below (by (with_reducible repeat (first | apply kA | apply kN | apply kD)); exact HO_309001.out) hb); have n1_ := aM (Kd.R_below (Kd.R_elderB (by (with_reducible repeat (first | apply kA | apply kN | apply kD)); exact HO_309002.out) gb310 (Nat.le_of_eq hg.symm)) hb); have n2_ := aM (blk_below (g := gb300) (o := .cells #[.int .i64 a0_0, .slice A0_1 l0_1.length c0_1, .slice (some ad309) l0_2.length c0_2] 25 (0, 0)) (by (with_reducible repeat (first | apply bkN | apply bkD | apply bkA)); exact BK300.out) hb); have n3_ := aM (blk_below (g := gb301) (o := .cells #[.int .i64 0, .slice none 0 0, .slice none 0 0] 25 (0, 0)) (by (with_reducible repeat (first | apply bkN | apply bkD | apply bkA)); exact BK301.out) hb); have n4_ := aM (blk_below (g := gb308) (o := .cells #[.int .i64 a0_0, .slice Ao12 y305.length co12, u309002] 25 (0, 0)) (by (with_reducible repeat (first | apply bkN | apply bkD | apply bkA)); exact BK308.out) hb); have n5_ := aM (below_step (by repeat (first | (with_reducible first | exact HB.out | apply blA | apply blN | apply blD | refine bS ?_ GE300.out | refine bS ?_ GE301.out | refine bS ?_ GE308.out) | exact HB.out)) hb); have n6_ := aM (hbox); have n7_ := aM ((by rw [hg]; exact (below_size (by repeat (first | (with_reducible first | exact HB.out | apply blA | apply blN | apply blD | refine bS ?_ GE300.out | refine bS ?_ GE301.out | refine bS ?_ GE308.out) | exact HB.out))) : w.heap.size ≤ gb310)); have n8_ := aM ((by rw [hg]; exact (below_size (by repeat (first | (with_reducible first | exact HB.out | apply blA | apply blN | apply blD | refine bS ?_ GE300.out | refine bS ?_ GE301.out | refine bS ?_ GE308.out) | exact HB.out))) : w.heap.size ≤ gb310)); have n9_ := aM ((by rw [hg]; exact Nat.ne_of_lt (blk_lt (g := gb300) (o := .cells #[.int .i64 a0_0, .slice A0_1 l0_1.length c0_1, .slice (some ad309) l0_2.length c0_2] 25 (0, 0)) (by (with_reducible repeat (first | apply bkN | apply bkD | apply bkA)); exact BK300.out)) : gb300 ≠ gb310)); have n10_ := aM ((by rw [hg]; exact Nat.ne_of_gt (blk_lt (g := gb300) (o := .cells #[.int .i64 a0_0, .slice A0_1 l0_1.length c0_1, .slice (some ad309) l0_2.length c0_2] 25 (0, 0)) (by (with_reducible repeat (first | apply bkN | apply bkD | apply bkA)); exact BK300.out)) : gb310 ≠ gb300)); have n11_ := aM ((by rw [hg]; exact Nat.ne_of_lt (blk_lt (g := gb301) (o := .cells #[.int .i64 0, .slice none 0 0, .slice none 0 0] 25 (0, 0)) (by (with_reducible repeat (first | apply bkN | apply bkD | apply bkA)); exact BK301.out)) : gb301 ≠ gb310)); have n12_ := aM ((by rw [hg]; exact Nat.ne_of_gt (blk_lt (g := gb301) (o := .cells #[.int .i64 0, .slice none 0 0, .slice none 0 0] 25 (0, 0)) (by (with_reducible repeat (first | apply bkN | apply bkD | apply bkA)); exact BK301.out)) : gb310 ≠ gb301)); have n13_ := aM ((by rw [hg]; exact Nat.ne_of_lt (blk_lt (g := gb308) (o := .cells #[.int .i64 a0_0, .slice Ao12 y305.length co12, u309002] 25 (0, 0)) (by (with_reducible repeat (first | apply bkN | apply bkD | apply bkA)); exact BK308.out)) : gb308 ≠ gb310)); have n14_ := aM ((by rw [hg]; exact Nat.ne_of_gt (blk_lt (g := gb308) (o := .cells #[.int .i64 a0_0, .slice Ao12 y305.length co12, u309002] 25 (0, 0)) (by (with_reducible repeat (first | apply bkN | apply bkD | apply bkA)); exact BK308.out)) : gb310 ≠ gb308)); clear HO_309001; clear HO_309002; clear BK300; clear BK301; clear BK308; clear HB; have HO_309001 := n0_; have HO_309002 := n1_; have BK300 := n2_; have BK301 := n3_; have BK308 := n4_; have HB := n5_; have BK310 := n6_; have GW310 := n7_; have GE310 := n8_; have NB300_310 := n9_; have NB310_300 := n10_; have NB301_310 := n11_; have NB310_301 := n12_; have NB308_310 := n13_; have NB310_308 := n14_; clear n0_ n1_ n2_ n3_ n4_ n5_ n6_ n7_ n8_ n9_ n10_ n11_ n12_ n13_ n14_; clear hb hbox hg; have hnb25 := NB310_300.out; have hnc25 := NB300_310.out; have hnb26 := NB310_301.out; have hnc26 := NB301_310.out; have hnb27 := NB310_308.out; have hnc27 := NB308_310.out; have hcz28_0 : w24.cell? ⟨gb310, 0, none⟩ = some (.int .i64 0) := (blk_cell BK310.out 0).trans rfl; have hcz28_1 : w24.cell? ⟨gb310, 1, none⟩ = some (.slice none 0 0) := (blk_cell BK310.out 1).trans rfl; have hcz28_2 : w24.cell? ⟨gb310, 2, none⟩ = some (.slice none 0 0) := (blk_cell BK310.out 2).trans rfl; have hfz28_0 := bF BK310.out 0; have hfz28_1 := bF BK310.out 1; have hfz28_2 := bF BK310.out 2))
             have n0_ : Aside0 (Kd.R k66 66 (((w24.setCell ⟨gb310, 0, none⟩ (.int .i64 ((rd_T25 l0_2 x16_1).f0))).setCell ⟨gb310, 1, none⟩ (.slice A309_1 ((rd_T25 l0_2 x16_1).f1).length c309_1)).setCell ⟨gb310, 2, none⟩ (.slice A309_2 ((rd_T25 l0_2 x16_1).f2).length c309_2)) w.heap.size (fun _ => True) (.slice Ao12 y305.length co12) y305) := ⟨by (with_reducible repeat (first | apply kA | apply kN | apply kD)); exact Kd.R_mono (Kd.R_far (p := ⟨gb310, 2, none⟩) (Kd.R_far (p := ⟨gb310, 1, none⟩) (Kd.R_far (p := ⟨gb310, 0, none⟩) (Kd.R_types HO_309001.out BK310.out (by decide)) (fun _ hk => hk.2) (.int .i64 ((rd_T25 l0_2 x16_1).f0))) (fun _ hk => hk.2) (.slice A309_1 ((rd_T25 l0_2 x16_1).f1).length c309_1)) (fun _ hk => hk.2) (.slice A309_2 ((rd_T25 l0_2 x16_1).f2).length c309_2)) (fun _ hk => trivial)⟩
             have n1_ : Aside0 (Kd.R k25 25 (((w24.setCell ⟨gb310, 0, none⟩ (.int .i64 ((rd_T25 l0_2 x16_1).f0))).setCell ⟨gb310, 1, none⟩ (.slice A309_1 ((rd_T25 l0_2 x16_1).f1).length c309_1)).setCell ⟨gb310, 2, none⟩ (.slice A309_2 ((rd_T25 l0_2 x16_1).f2).length c309_2)) w.heap.size (fun k_ => some k_ ≠ (.slice Ao12 y305.length co12 : Value).ownBlock ∧ k_ ≠ gb300 ∧ k_ ≠ gb301 ∧ k_ ≠ gb308 ∧ k_ ≠ gb310) u309002 x309002_1) := ⟨by (with_reducible repeat (first | apply kA | apply kN | apply kD)); exact Kd.R_mono (Kd.R_far (p := ⟨gb310, 2, none⟩) (Kd.R_far (p := ⟨gb310, 1, none⟩) (Kd.R_far (p := ⟨gb310, 0, none⟩) (Kd.R_mono HO_309002.out (fun k_ hk => (⟨hk, hk.2⟩ : _ ∧ k_ ≠ gb310))) (fun _ hk => hk.2) (.int .i64 ((rd_T25 l0_2 x16_1).f0))) (fun _ hk => hk.2) (.slice A309_1 ((rd_T25 l0_2 x16_1).f1).length c309_1)) (fun _ hk => hk.2) (.slice A309_2 ((rd_T25 l0_2 x16_1).f2).length c309_2)) (fun _ hk => ⟨hk.1.1.1, ⟨hk.1.1.2.1, ⟨hk.1.1.2.2.1, ⟨hk.1.1.2.2.2, hk.1.2⟩⟩⟩⟩)⟩
             have n2_ : Aside0 ((((w24.setCell ⟨gb310, 0, none⟩ (.int .i64 ((rd_T25 l0_2 x16_1).f0))).setCell ⟨gb310, 1, none⟩ (.slice A309_1 ((rd_T25 l0_2 x16_1).f1).length c309_1)).setCell ⟨gb310, 2, none⟩ (.slice A309_2 ((rd_T25 l0_2 x16_1).f2).length c309_2)).heap[gb300]? = some (.cells #[.int .i64 a0_0, .slice A0_1 l0_1.length c0_1, .slice (some ad309) l0_2.length c0_2] 25 (0, 0))) := ⟨by (with_reducible repeat (first | apply bkN | apply bkD | apply bkA)); refine blk_far ?_ NB300_310.out _; (with_reducible repeat (first | apply bkN | apply bkD | apply bkA)); refine blk_far ?_ NB300_310.out _; (with_reducible repeat (first | apply bkN | apply bkD | apply bkA)); refine blk_far ?_ NB300_310.out _; (with_reducible repeat (first | apply bkN | apply bkD | apply bkA)); exact BK300.out⟩
             have n3_ : Aside0 ((((w24.setCell ⟨gb310, 0, none⟩ (.int .i64 ((rd_T25 l0_2 x16_1).f0))).setCell ⟨gb310, 1, none⟩ (.slice A309_1 ((rd_T25 l0_2 x16_1).f1).length c309_1)).setCell ⟨gb310, 2, none⟩ (.slice A309_2 ((rd_T25 l0_2 x16_1).f2).length c309_2)).heap[gb301]? = some (.cells #[.int .i64 0, .slice none 0 0, .slice none 0 0] 25 (0, 0))) := ⟨by (with_reducible repeat (first | apply bkN | apply bkD | apply bkA)); refine blk_far ?_ NB301_310.out _; (with_reducible repeat (first | apply bkN | apply bkD | apply bkA)); refine blk_far ?_ NB301_310.out _; (with_reducible repeat (first | apply bkN | apply bkD | apply bkA)); refine blk_far ?_ NB301_310.out _; (with_reducible repeat (first | apply bkN | apply bkD | apply bkA)); exact BK301.out⟩
             have n4_ : Aside0 ((((w24.setCell ⟨gb310, 0, none⟩ (.int .i64 ((rd_T25 l0_2 x16_1).f0))).setCell ⟨gb310, 1, none⟩ (.slice A309_1 ((rd_T25 l0_2 x16_1).f1).length c309_1)).setCell ⟨gb310, 2, none⟩ (.slice A309_2 ((rd_T25 l0_2 x16_1).f2).length c309_2)).heap[gb308]? = some (.cells #[.int .i64 a0_0, .slice Ao12 y305.length co12, u309002] 25 (0, 0))) := ⟨by (with_reducible repeat (first | apply bkN | apply bkD | apply bkA)); refine blk_far ?_ NB308_310.out _; (with_reducible repeat (first | apply bkN | apply bkD | apply bkA)); refine blk_far ?_ NB308_310.out _; (with_reducible repeat (first | apply bkN | apply bkD | apply bkA)); refine blk_far ?_ NB308_310.out _; (with_reducible repeat (first | apply bkN | apply bkD | apply bkA)); exact BK308.out⟩
             have n5_ : Aside0 ((((w24.setCell ⟨gb310, 0, none⟩ (.int .i64 ((rd_T25 l0_2 x16_1).f0))).setCell ⟨gb310, 1, none⟩ (.slice A309_1 ((rd_T25 l0_2 x16_1).f1).length c309_1)).setCell ⟨gb310, 2, none⟩ (.slice A309_2 ((rd_T25 l0_2 x16_1).f2).length c309_2)).heap[gb310]? = some (.cells #[.int .i64 ((rd_T25 l0_2 x16_1).f0), .slice A309_1 ((rd_T25 l0_2 x16_1).f1).length c309_1, .slice A309_2 ((rd_T25 l0_2 x16_1).f2).length c309_2] 25 (0, 0))) := ⟨by (with_reducible repeat (first | apply bkN | apply bkD | apply bkA)); refine blk_put (cs := #[.int .i64 ((rd_T25 l0_2 x16_1).f0), .slice A309_1 ((rd_T25 l0_2 x16_1).f1).length c309_1, .slice none 0 0]) ?_ 2 _ rfl; (with_reducible repeat (first | apply bkN | apply bkD | apply bkA)); refine blk_put (cs := #[.int .i64 ((rd_T25 l0_2 x16_1).f0), .slice none 0 0, .slice none 0 0]) ?_ 1 _ rfl; (with_reducible repeat (first | apply bkN | apply bkD | apply bkA)); refine blk_put (cs := #[.int .i64 0, .slice none 0 0, .slice none 0 0]) ?_ 0 _ rfl; (with_reducible repeat (first | apply bkN | apply bkD | apply bkA)); exact BK310.out⟩
             have n6_ : Aside0 (Below w.heap.size w (((w24.setCell ⟨gb310, 0, none⟩ (.int .i64 ((rd_T25 l0_2 x16_1).f0))).setCell ⟨gb310, 1, none⟩ (.slice A309_1 ((rd_T25 l0_2 x16_1).f1).length c309_1)).setCell ⟨gb310, 2, none⟩ (.slice A309_2 ((rd_T25 l0_2 x16_1).f2).length c309_2))) := ⟨by repeat (first | (with_reducible first | exact HB.out | apply blA | apply blN | apply blD | refine bS ?_ GE300.out | refine bS ?_ GE301.out | refine bS ?_ GE308.out | refine bS ?_ GE310.out) | exact HB.out)⟩
             (try clear HO_309001)
             (try clear HO_309002)
             (try clear BK300)
             (try clear BK301)
             (try clear BK308)
             (try clear BK310)
             (try clear HB)
             generalize (((w24.setCell ⟨gb310, 0, none⟩ (.int .i64 ((rd_T25 l0_2 x16_1).f0))).setCell ⟨gb310, 1, none⟩ (.slice A309_1 ((rd_T25 l0_2 x16_1).f1).length c309_1)).setCell ⟨gb310, 2, none⟩ (.slice A309_2 ((rd_T25 l0_2 x16_1).f2).length c309_2)) = w29 at n0_ n1_ n2_ n3_ n4_ n5_ n6_ ⊢
             have HO_309001 := n0_
             have HO_309002 := n1_
             have BK300 := n2_
             have BK301 := n3_
             have BK308 := n4_
             have BK310 := n5_
             have HB := n6_
             clear n0_ n1_ n2_ n3_ n4_ n5_ n6_
             have n0_ := aM (Kd.R_drew HO_309001.out)
             have n1_ := aM (Kd.R_drew HO_309002.out)
             have n2_ := aM (blk_drew BK300.out)
             have n3_ := aM (blk_drew BK301.out)
             have n4_ := aM (blk_drew BK308.out)
             have n5_ := aM (blk_drew BK310.out)
             have n6_ := aM (below_drew1 HB.out)
             clear HO_309001
             clear HO_309002
             clear BK300
             clear BK301
             clear BK308
             clear BK310
             clear HB
             have HO_309001 := n0_
             have HO_309002 := n1_
             have BK300 := n2_
             have BK301 := n3_
             have BK308 := n4_
             have BK310 := n5_
             have HB := n6_
             clear n0_ n1_ n2_ n3_ n4_ n5_ n6_
             refine start_ (n := 8) (S := fun w' => w'.cell? ⟨gb308, 0, none⟩ = some (.int .i64 a0_0) ∧ w'.cell? ⟨gb308, 1, none⟩ = some (.slice Ao12 y305.length co12) ∧ w'.cell? ⟨gb308, 2, none⟩ = some (u309002) ∧ w'.cell? ⟨gb310, 0, none⟩ = some (.int .i64 ((rd_T25 l0_2 x16_1).f0)) ∧ w'.cell? ⟨gb310, 1, none⟩ = some (.slice A309_1 ((rd_T25 l0_2 x16_1).f1).length c309_1) ∧ w'.cell? ⟨gb310, 2, none⟩ = some (.slice A309_2 ((rd_T25 l0_2 x16_1).f2).length c309_2)) (ds := [7]) #[false, false, false, false, false, false, false, false] (by kernel_rfl) rfl rfl ⟨(blk_cell BK308.out 0).trans rfl, (blk_cell BK308.out 1).trans rfl, (blk_cell BK308.out 2).trans rfl, (blk_cell BK310.out 0).trans rfl, (blk_cell BK310.out 1).trans rfl, (blk_cell BK310.out 2).trans rfl⟩ (fun hHeld => ?_); refine with_tabW r5_Copy.tab5 r5_Copy.bits5 (fun HT_ HW_ => ?_)
             generalize w29.drew = w30 at HO_309001 HO_309002 BK300 BK301 BK308 BK310 HB hHeld ⊢
             refine pure_ (i := 0) (N := some 20) (v := ?_) (a' := ?_) #[true, false, false, false, false, false, false, false] rfl rfl (any_of HT_.out (by kernel_rfl)) (fun _ _ _ h => h) (Or.inl ⟨by rfl, ?_⟩) ?_ ?_
             rotate_left
             · intro w'
               go_simp
               with_reducible rfl
             rotate_left
             · simp only [Act.put, List.setIfInBounds_toArray, List.set_cons_zero, List.set_cons_succ, i64_w, i32_w]
               rfl
             refine take_ (i := 1) (N := some 21) (v := ?_) (a' := ?_) #[true, true, false, false, false, false, false, false] rfl rfl (take_ofW HT_.out HW_.out (by kernel_rfl)) (fun _ _ _ h => h) (Or.inl ⟨by rfl, ?_⟩) hHeld ?_ ?_
             rotate_left
             · rintro w' ⟨s0, s1, s2, s3, s4, s5⟩
               go_simp
               with_reducible rfl
             rotate_left
             · simp only [Act.put, List.setIfInBounds_toArray, List.set_cons_zero, List.set_cons_succ, i64_w, i32_w]
               rfl
             refine take_ (i := 2) (N := some 22) (v := ?_) (a' := ?_) #[true, true, true, false, false, false, false, false] rfl rfl (take_ofW HT_.out HW_.out (by kernel_rfl)) (fun _ _ _ h => h) (Or.inl ⟨by rfl, ?_⟩) hHeld ?_ ?_
             rotate_left
             · rintro w' ⟨s0, s1, s2, s3, s4, s5⟩
               go_simp
               with_reducible rfl
             rotate_left
             · simp only [Act.put, List.setIfInBounds_toArray, List.set_cons_zero, List.set_cons_succ, i64_w, i32_w]
               rfl
             refine one_ (i := 3) (N := some 23) #[true, true, true, true, false, false, false, false] rfl rfl (one_of HT_.out (by kernel_rfl)) (by decide) (fun K hK => ?_)
             refine goes_ Try.func15 (by kernel_rfl) rfl #[.agg #[.int .i64 ((rd_T25 l0_2 x16_1).f0), .slice A309_1 ((rd_T25 l0_2 x16_1).f1).length c309_1, .slice A309_2 ((rd_T25 l0_2 x16_1).f2).length c309_2]] (by rfl) rfl rfl (by (try simp only [List.map_toArray, List.map_cons, List.map_nil]); first | done | rfl | (simp only [List.length_drop, List.length_take]; rfl)) ?_
             with_reducible refine (ih k1 (by have := HK1.out; omega) ((rd_T25 l0_2 x16_1).f0) _ _ ((rd_T25 l0_2 x16_1).f1) _ _ ((rd_T25 l0_2 x16_1).f2) t311 t312 t315 _ ?side1 ?side2 ?side3 ?side4 A22.out).mono ?_
             (case side1 => repeat (first | exact (Kd.C_below HR309_1.out HB.out) | (with_reducible refine Kd.C_alloc ?_ _) | (with_reducible refine Kd.C_drewN ?_ _) | (with_reducible refine Kd.C_drew ?_)))
             (case side2 => exact HC309_1.out)
             (case side3 => repeat (first | exact (Kd.C_below HR309_2.out HB.out) | (with_reducible refine Kd.C_alloc ?_ _) | (with_reducible refine Kd.C_drewN ?_ _) | (with_reducible refine Kd.C_drew ?_)))
             (case side4 => exact HC309_2.out)
             rintro e w31 ⟨v313, v316, rfl, ho0, ho1, hb⟩
             refine ⟨_, rfl, ?_⟩
             have n0_ := aM (Kd.R_elder' (by (with_reducible repeat (first | apply kA | apply kN | apply kD)); exact HO_309001.out) (Kd.R_base ho0) hb)
             have n1_ := aM (Kd.R_mono (Kd.R_told (Kd.R_told (Kd.R_old (by (with_reducible repeat (first | apply kA | apply kN | apply kD)); exact HO_309002.out) hb) (Kd.R_base ho0)) (Kd.R_base ho1)) (fun _ h_ => h_.1))
             have n2_ := aM (Kd.R_lower (Kd.R_new' ho0 (Kd.R_lt (by (with_reducible repeat (first | apply kA | apply kN | apply kD)); exact HO_309001.out))) (below_size (by repeat (first | (with_reducible first | exact HB.out | apply blA | apply blN | apply blD | refine bS ?_ GE300.out | refine bS ?_ GE301.out | refine bS ?_ GE308.out | refine bS ?_ GE310.out) | exact HB.out))))
             have n3_ := aM (Kd.R_lower (Kd.R_newB (Kd.R_newB (Kd.R_newB (Kd.R_newB (Kd.R_new' (Kd.R_new' ho1 (Kd.R_lt (by (with_reducible repeat (first | apply kA | apply kN | apply kD)); exact HO_309001.out))) (Kd.R_lt (by (with_reducible repeat (first | apply kA | apply kN | apply kD)); exact HO_309002.out))) (g := gb300) (o := .cells #[.int .i64 a0_0, .slice A0_1 l0_1.length c0_1, .slice (some ad309) l0_2.length c0_2] 25 (0, 0)) (by (with_reducible repeat (first | apply bkN | apply bkD | apply bkA)); exact BK300.out)) (g := gb301) (o := .cells #[.int .i64 0, .slice none 0 0, .slice none 0 0] 25 (0, 0)) (by (with_reducible repeat (first | apply bkN | apply bkD | apply bkA)); exact BK301.out)) (g := gb308) (o := .cells #[.int .i64 a0_0, .slice Ao12 y305.length co12, u309002] 25 (0, 0)) (by (with_reducible repeat (first | apply bkN | apply bkD | apply bkA)); exact BK308.out)) (g := gb310) (o := .cells #[.int .i64 ((rd_T25 l0_2 x16_1).f0), .slice A309_1 ((rd_T25 l0_2 x16_1).f1).length c309_1, .slice A309_2 ((rd_T25 l0_2 x16_1).f2).length c309_2] 25 (0, 0)) (by (with_reducible repeat (first | apply bkN | apply bkD | apply bkA)); exact BK310.out)) (below_size (by repeat (first | (with_reducible first | exact HB.out | apply blA | apply blN | apply blD | refine bS ?_ GE300.out | refine bS ?_ GE301.out | refine bS ?_ GE308.out | refine bS ?_ GE310.out) | exact HB.out))))
             have n4_ := aM (blk_below (g := gb300) (o := .cells #[.int .i64 a0_0, .slice A0_1 l0_1.length c0_1, .slice (some ad309) l0_2.length c0_2] 25 (0, 0)) (by (with_reducible repeat (first | apply bkN | apply bkD | apply bkA)); exact BK300.out) hb)
             have n5_ := aM (blk_below (g := gb301) (o := .cells #[.int .i64 0, .slice none 0 0, .slice none 0 0] 25 (0, 0)) (by (with_reducible repeat (first | apply bkN | apply bkD | apply bkA)); exact BK301.out) hb)
             have n6_ := aM (blk_below (g := gb308) (o := .cells #[.int .i64 a0_0, .slice Ao12 y305.length co12, u309002] 25 (0, 0)) (by (with_reducible repeat (first | apply bkN | apply bkD | apply bkA)); exact BK308.out) hb)
             have n7_ := aM (blk_below (g := gb310) (o := .cells #[.int .i64 ((rd_T25 l0_2 x16_1).f0), .slice A309_1 ((rd_T25 l0_2 x16_1).f1).length c309_1, .slice A309_2 ((rd_T25 l0_2 x16_1).f2).length c309_2] 25 (0, 0)) (by (with_reducible repeat (first | apply bkN | apply bkD | apply bkA)); exact BK310.out) hb)
             have n8_ := aM (below_step (by repeat (first | (with_reducible first | exact HB.out | apply blA | apply blN | apply blD | refine bS ?_ GE300.out | refine bS ?_ GE301.out | refine bS ?_ GE308.out | refine bS ?_ GE310.out) | exact HB.out)) hb)
             clear HO_309001
             clear HO_309002
             clear BK300
             clear BK301
             clear BK308
             clear BK310
             clear HB
             have HO_309001 := n0_
             have HO_309002 := n1_
             have HO314 := n2_
             have HO317 := n3_
             have BK300 := n4_
             have BK301 := n5_
             have BK308 := n6_
             have BK310 := n7_
             have HB := n8_
             clear n0_ n1_ n2_ n3_ n4_ n5_ n6_ n7_ n8_
             (try clear hb)
             (try clear hb2)
             (try clear hk)
             (try clear hi)
             (try clear ho0)
             (try clear ho1)
             obtain ⟨Ao33, co33, eo33⟩ := Kd.R_slice HO314.out
             (first | subst eo33 | (injection eo33 with f1_ f2_ f3_; have f4_ := f1_.symm; have f5_ := f3_.symm; clear f1_ f2_ f3_; subst f4_; subst f5_))
             obtain ⟨Ao34, co34, eo34⟩ := Kd.R_slice HO317.out
             (first | subst eo34 | (injection eo34 with f1_ f2_ f3_; have f4_ := f1_.symm; have f5_ := f3_.symm; clear f1_ f2_ f3_; subst f4_; subst f5_))
             refine hK.out _ _ ⟨(blk_cell BK308.out 0).trans rfl, (blk_cell BK308.out 1).trans rfl, (blk_cell BK308.out 2).trans rfl, (blk_cell BK310.out 0).trans rfl, (blk_cell BK310.out 1).trans rfl, (blk_cell BK310.out 2).trans rfl⟩ (fun hHeld => ?_)
             clear hK K
             refine norm_ (a' := ?_) ?_ ?_
             rotate_left
             · show Act.put _ (some 23) _ = _
               simp only [Act.put, List.setIfInBounds_toArray, List.set_cons_zero, List.set_cons_succ, i64_w, i32_w]
               rfl
             refine one_ (i := 4) (N := some 24) #[true, true, true, true, true, false, false, false] rfl rfl (one_of HT_.out (by kernel_rfl)) (by decide) (fun K hK => ?_)
             refine value_ (w1 := ?_) (v := ?_) (by rfl) rfl ?_ ?_
             rotate_left 2
             · go_simp
               constructor
               · rfl
               · rfl
             refine hK.out _ _ ⟨(blk_cell (blk_alloc BK308.out _) 0).trans rfl, (blk_cell (blk_alloc BK308.out _) 1).trans rfl, (blk_cell (blk_alloc BK308.out _) 2).trans rfl, (blk_cell (blk_alloc BK310.out _) 0).trans rfl, (blk_cell (blk_alloc BK310.out _) 1).trans rfl, (blk_cell (blk_alloc BK310.out _) 2).trans rfl⟩ (fun hHeld => ?_)
             clear hK K
             refine norm_ (a' := ?_) ?_ ?_
             rotate_left
             · show Act.put _ (some 24) _ = _
               simp only [Act.put, List.setIfInBounds_toArray, List.set_cons_zero, List.set_cons_succ, i64_w, i32_w]
               rfl
             refine one_ (i := 5) (N := some 25) #[true, true, true, true, true, true, false, false] rfl rfl (one_of HT_.out (by kernel_rfl)) (by decide) (fun K hK => ?_)
             refine Kd.R_append_step k25 (w0 := w) w.heap.size (by rfl) (.tmp 21) (.tmp 24) 23 25 (.agg #[(.int .i64 0), (.slice none 0 0), (.slice none 0 0)]) 56 rfl Try.underlying23 info25 rfl (by decide) (by omega) u309002 x309002_1 (⟨t311, t312, t315⟩ : S25) [.int .i64 t311, .slice Ao33 t312.length co33, .slice Ao34 t315.length co34] (fun k_ => some k_ ≠ (.slice Ao12 y305.length co12 : Value).ownBlock ∧ k_ ≠ gb300 ∧ k_ ≠ gb301 ∧ k_ ≠ gb308 ∧ k_ ≠ gb310) (fun k_ => ((fun k_ => some k_ ≠ (.slice Ao12 y305.length co12 : Value).ownBlock ∧ k_ ≠ gb300 ∧ k_ ≠ gb301 ∧ k_ ≠ gb308 ∧ k_ ≠ gb310)) k_ ∧ some k_ ≠ (u309002 : Value).ownBlock) rfl rfl ?aP (fun _ hk => hk) ?aF ?aO ?aB ?aS ?aL ?_
             (case aP => exact k25_mkM _ _ _ (⟨t311, t312, t315⟩ : S25) (Kd.R_mono (Kd.R_types (Kd.R_types (Kd.R_types (Kd.R_types (Kd.R_apart' (HO314.out) (Kd.R_typed HO_309002.out) (by decide)) BK300.out (by decide)) BK301.out (by decide)) BK308.out (by decide)) BK310.out (by decide)) (fun k_ hk => ⟨⟨hk.1.1.1.1.1.2, ⟨hk.1.1.1.2, ⟨hk.1.1.2, ⟨hk.1.2, hk.2⟩⟩⟩⟩, hk.1.1.1.1.2⟩)) (Kd.R_mono (HO317.out) (fun k_ hk => ⟨⟨hk.1.1.1.1.1.2, ⟨hk.1.1.1.2, ⟨hk.1.1.2, ⟨hk.1.2, hk.2⟩⟩⟩⟩, hk.1.1.1.1.2⟩)))
             (case aB => exact (by repeat (first | (with_reducible first | exact HB.out | apply blA | apply blN | apply blD | refine bS ?_ GE300.out | refine bS ?_ GE301.out | refine bS ?_ GE308.out | refine bS ?_ GE310.out) | exact HB.out)))
             (case aF => exact (fun k_ hk => ⟨Kd.fresh' (Kd.R_lt (by (with_reducible repeat (first | apply kA | apply kN | apply kD)); exact HO_309001.out)) k_ hk, Kd.freshB (g := gb300) (o := .cells #[.int .i64 a0_0, .slice A0_1 l0_1.length c0_1, .slice (some ad309) l0_2.length c0_2] 25 (0, 0)) (by (with_reducible repeat (first | apply bkN | apply bkD | apply bkA)); exact BK300.out) k_ hk, Kd.freshB (g := gb301) (o := .cells #[.int .i64 0, .slice none 0 0, .slice none 0 0] 25 (0, 0)) (by (with_reducible repeat (first | apply bkN | apply bkD | apply bkA)); exact BK301.out) k_ hk, Kd.freshB (g := gb308) (o := .cells #[.int .i64 a0_0, .slice Ao12 y305.length co12, u309002] 25 (0, 0)) (by (with_reducible repeat (first | apply bkN | apply bkD | apply bkA)); exact BK308.out) k_ hk, Kd.freshB (g := gb310) (o := .cells #[.int .i64 ((rd_T25 l0_2 x16_1).f0), .slice A309_1 ((rd_T25 l0_2 x16_1).f1).length c309_1, .slice A309_2 ((rd_T25 l0_2 x16_1).f2).length c309_2] 25 (0, 0)) (by (with_reducible repeat (first | apply bkN | apply bkD | apply bkA)); exact BK310.out) k_ hk⟩))
             (case aO => exact (by (with_reducible repeat (first | apply kA | apply kN | apply kD)); exact Kd.R_mono HO_309002.out (fun _ hk => ⟨hk.1.1.1, ⟨hk.1.1.2.1, ⟨hk.1.1.2.2.1, ⟨hk.1.1.2.2.2.1, hk.1.1.2.2.2.2⟩⟩⟩⟩)))
             (case aS => exact (below_size (by repeat (first | (with_reducible first | exact HB.out | apply blA | apply blN | apply blD | refine bS ?_ GE300.out | refine bS ?_ GE301.out | refine bS ?_ GE308.out | refine bS ?_ GE310.out) | exact HB.out))))
             (case aL => have := LMc23.out; omega)
             intro v319 w32 ho hb hg hat
             rw [← Ny318.out] at ho
             have n0_ := aM (Kd.R_over' (by (with_reducible repeat (first | apply kA | apply kN | apply kD)); exact HO_309001.out) (Kd.R_typed (by (with_reducible repeat (first | apply kA | apply kN | apply kD)); exact HO_309002.out)) (by decide) hg)
             have n1_ := aM (blk_grown (g := gb300) (o := .cells #[.int .i64 a0_0, .slice A0_1 l0_1.length c0_1, .slice (some ad309) l0_2.length c0_2] 25 (0, 0)) (by (with_reducible repeat (first | apply bkN | apply bkD | apply bkA)); exact BK300.out) hg (Kd.R_away HO_309002.out (fun _ hk => hk.1.1.2.1)))
             have n2_ := aM (blk_grown (g := gb301) (o := .cells #[.int .i64 0, .slice none 0 0, .slice none 0 0] 25 (0, 0)) (by (with_reducible repeat (first | apply bkN | apply bkD | apply bkA)); exact BK301.out) hg (Kd.R_away HO_309002.out (fun _ hk => hk.1.1.2.2.1)))
             have n3_ := aM (blk_grown (g := gb308) (o := .cells #[.int .i64 a0_0, .slice Ao12 y305.length co12, u309002] 25 (0, 0)) (by (with_reducible repeat (first | apply bkN | apply bkD | apply bkA)); exact BK308.out) hg (Kd.R_away HO_309002.out (fun _ hk => hk.1.1.2.2.2.1)))
             have n4_ := aM (blk_grown (g := gb310) (o := .cells #[.int .i64 ((rd_T25 l0_2 x16_1).f0), .slice A309_1 ((rd_T25 l0_2 x16_1).f1).length c309_1, .slice A309_2 ((rd_T25 l0_2 x16_1).f2).length c309_2] 25 (0, 0)) (by (with_reducible repeat (first | apply bkN | apply bkD | apply bkA)); exact BK310.out) hg (Kd.R_away HO_309002.out (fun _ hk => hk.1.1.2.2.2.2)))
             have n5_ := aM (hb)
             have n6_ := aM (ho)
             clear HO_309001
             clear BK300
             clear BK301
             clear BK308
             clear BK310
             clear HB
             clear HO_309002
             clear HO314
             clear HO317
             have HO_309001 := n0_
             have BK300 := n1_
             have BK301 := n2_
             have BK308 := n3_
             have BK310 := n4_
             have HB := n5_
             have HO320 := n6_
             clear n0_ n1_ n2_ n3_ n4_ n5_ n6_
             clear ho hb hg hat
             obtain ⟨Ao35, co35, eo35⟩ := Kd.R_slice HO320.out
             (first | subst eo35 | (injection eo35 with f1_ f2_ f3_; have f4_ := f1_.symm; have f5_ := f3_.symm; clear f1_ f2_ f3_; subst f4_; subst f5_))
             refine hK.out _ _ ⟨(blk_cell BK308.out 0).trans rfl, (blk_cell BK308.out 1).trans rfl, (blk_cell BK308.out 2).trans rfl, (blk_cell BK310.out 0).trans rfl, (blk_cell BK310.out 1).trans rfl, (blk_cell BK310.out 2).trans rfl⟩ (fun hHeld => ?_)
             clear hK K
             refine norm_ (a' := ?_) ?_ ?_
             rotate_left
             · show Act.put _ (some 25) _ = _
               simp only [Act.put, List.setIfInBounds_toArray, List.set_cons_zero, List.set_cons_succ, i64_w, i32_w]
               rfl
             refine pure_ (i := 6) (N := some 26) (v := ?_) (a' := ?_) #[true, true, true, true, true, true, true, false] rfl rfl (any_of HT_.out (by kernel_rfl)) (fun _ _ _ h => h) (Or.inl ⟨by rfl, ?_⟩) ?_ ?_
             rotate_left
             · intro w'
               go_simp
               with_reducible rfl
             rotate_left
             · simp only [Act.put, List.setIfInBounds_toArray, List.set_cons_zero, List.set_cons_succ, i64_w, i32_w]
               rfl
             refine last_ (i := 7) (N := none) #[true, true, true, true, true, true, true, true] rfl rfl (one_of HT_.out (by kernel_rfl)) (by decide) (fun K hK => ?_)
             have hs36 : w32.cell? ⟨gb308, 2, none⟩ = some (u309002) := (blk_cell BK308.out 2).trans rfl
             have hfs36 := bF BK308.out 2
             have hns36_0 := NB300_308.out
             have hns36_1 := NB301_308.out
             have hns36_3 := NB310_308.out
             have hms36_0 := NB308_300.out
             have hms36_1 := NB308_301.out
             have hms36_3 := NB308_310.out
             refine skip_ (w1 := ?_) (by rfl) rfl ?_ ?_
             rotate_left
             · go_simp
               rfl
             refine hK.out _ _ ?_
             clear hK K
             refine done_ (done_of HT_.out (by kernel_rfl)) ?_
             try go_wp2
             go_roundg k1
             case measure => have := HK1.out; omega
             case rel => exact ⟨(wrap64 (x16_1 + 1)), (y318), (.slice Ao35 y318.length co35), (by first | rfl | (simp; done) | (simp [*]; done)), H', ⟨by have := HK1.out; omega⟩, ⟨by (with_reducible repeat (first | apply kA | apply kN | apply kD)); exact Kd.R_mono (Kd.R_far (p := ⟨gb308, 2, none⟩) (Kd.R_types HO_309001.out BK308.out (by decide)) (fun _ hk => hk.2) (.slice Ao35 y318.length co35)) (fun _ hk => trivial)⟩, ⟨by (with_reducible repeat (first | apply kA | apply kN | apply kD)); exact Kd.R_mono (Kd.R_far (p := ⟨gb308, 2, none⟩) (Kd.R_mono HO320.out (fun k_ hk => (⟨hk, hk.2.2.2.1⟩ : _ ∧ k_ ≠ gb308))) (fun _ hk => hk.2) (.slice Ao35 y318.length co35)) (fun _ hk => ⟨hk.1.1, ⟨hk.1.2.1, ⟨hk.1.2.2.1, hk.1.2.2.2.1⟩⟩⟩)⟩, ⟨by (with_reducible repeat (first | apply bkN | apply bkD | apply bkA)); refine blk_far ?_ NB300_308.out _; (with_reducible repeat (first | apply bkN | apply bkD | apply bkA)); exact BK300.out⟩, ⟨by (with_reducible repeat (first | apply bkN | apply bkD | apply bkA)); refine blk_far ?_ NB301_308.out _; (with_reducible repeat (first | apply bkN | apply bkD | apply bkA)); exact BK301.out⟩, ⟨by (with_reducible repeat (first | apply bkN | apply bkD | apply bkA)); refine blk_put (cs := #[.int .i64 a0_0, .slice Ao12 y305.length co12, u309002]) ?_ 2 _ rfl; (with_reducible repeat (first | apply bkN | apply bkD | apply bkA)); exact BK308.out⟩, ⟨by repeat (first | (with_reducible first | exact HB.out | apply blA | apply blN | apply blD | refine bS ?_ GE300.out | refine bS ?_ GE301.out | refine bS ?_ GE308.out | refine bS ?_ GE310.out) | exact HB.out)⟩⟩
           · rw [if_neg c23] at H
             exact absurd H (by simp)
         · rw [if_neg c21] at H
           exact absurd H (by simp)
       · rw [if_neg c20] at H
         exact absurd H (by simp)
     · rw [if_neg c19] at H
       have c19b0 : decide (x16_1 < (l0_2.length : Int)) = false := decide_eq_false c19
       clear c19
       simp only [Option.some.injEq, Prod.mk.injEq] at H
       obtain ⟨rfl, rfl, rfl⟩ := H
       have hnb37 := NB308_300.out
       have hnc37 := NB300_308.out
       have hnb38 := NB308_301.out
       have hnc38 := NB301_308.out
       have hcz39_0 : wr.cell? ⟨gb308, 0, none⟩ = some (.int .i64 a0_0) := (blk_cell BK308.out 0).trans rfl
       have hcz39_1 : wr.cell? ⟨gb308, 1, none⟩ = some (.slice Ao12 y305.length co12) := (blk_cell BK308.out 1).trans rfl
       have hcz39_2 : wr.cell? ⟨gb308, 2, none⟩ = some (u309002) := (blk_cell BK308.out 2).trans rfl
       have hfz39_0 := bF BK308.out 0
       have hfz39_1 := bF BK308.out 1
       have hfz39_2 := bF BK308.out 2
       have hnb40 := NB301_300.out
       have hnc40 := NB300_301.out
       have hcz41_0 : wr.cell? ⟨gb301, 0, none⟩ = some (.int .i64 0) := (blk_cell BK301.out 0).trans rfl
       have hcz41_1 : wr.cell? ⟨gb301, 1, none⟩ = some (.slice none 0 0) := (blk_cell BK301.out 1).trans rfl
       have hcz41_2 : wr.cell? ⟨gb301, 2, none⟩ = some (.slice none 0 0) := (blk_cell BK301.out 2).trans rfl
       have hfz41_0 := bF BK301.out 0
       have hfz41_1 := bF BK301.out 1
       have hfz41_2 := bF BK301.out 2
       obtain ⟨Ao42, co42, eo42⟩ := Kd.R_slice HO_309002.out
       subst eo42
       go_wp2
       refine bodyPost_ret (results_cell_row rfl _ _ gb301 25 #[.int .i64 a0_0, .slice Ao12 y305.length co12, .slice Ao42 x309002_1.length co42] (0, 0) _ rfl (by (with_reducible repeat (first | apply bkN | apply bkD | apply bkA)); refine blk_put (cs := #[.int .i64 a0_0, .slice Ao12 y305.length co12, .slice none 0 0]) ?_ 2 _ rfl; (with_reducible repeat (first | apply bkN | apply bkD | apply bkA)); refine blk_put (cs := #[.int .i64 a0_0, .slice none 0 0, .slice none 0 0]) ?_ 1 _ rfl; (with_reducible repeat (first | apply bkN | apply bkD | apply bkA)); refine blk_put (cs := #[.int .i64 0, .slice none 0 0, .slice none 0 0]) ?_ 0 _ rfl; (with_reducible repeat (first | apply bkN | apply bkD | apply bkA)); exact BK301.out) Try.underlying25 rfl (by kernel_rfl)) rfl ?_
       exact ⟨_, _, by first | rfl | (simp [errW_none, errW_some] <;> rfl) | (simp [*, errW_none, errW_some] <;> rfl), by (with_reducible repeat (first | apply kA | apply kN | apply kD)); exact Kd.R_mono (Kd.R_far (p := ⟨gb301, 2, none⟩) (Kd.R_far (p := ⟨gb301, 1, none⟩) (Kd.R_far (p := ⟨gb301, 0, none⟩) (Kd.R_types HO_309001.out BK301.out (by decide)) (fun _ hk => hk.2) (.int .i64 a0_0)) (fun _ hk => hk.2) (.slice Ao12 y305.length co12)) (fun _ hk => hk.2) (.slice Ao42 x309002_1.length co42)) (fun _ hk => trivial), by (with_reducible repeat (first | apply kA | apply kN | apply kD)); exact Kd.R_mono (Kd.R_far (p := ⟨gb301, 2, none⟩) (Kd.R_far (p := ⟨gb301, 1, none⟩) (Kd.R_far (p := ⟨gb301, 0, none⟩) (Kd.R_mono HO_309002.out (fun k_ hk => (⟨hk, hk.2.2.1⟩ : _ ∧ k_ ≠ gb301))) (fun _ hk => hk.2) (.int .i64 a0_0)) (fun _ hk => hk.2) (.slice Ao12 y305.length co12)) (fun _ hk => hk.2) (.slice Ao42 x309002_1.length co42)) (fun _ hk => hk.1.1), by repeat (first | (with_reducible first | exact HB.out | apply blA | apply blN | apply blD | refine bS ?_ GE300.out | refine bS ?_ GE301.out | refine bS ?_ GE308.out) | exact HB.out)⟩
 · rw [if_neg c2] at H
   exact absurd H (by simp)
end Go.Proofs.Ytlkjfjlmjgkheaa.G
