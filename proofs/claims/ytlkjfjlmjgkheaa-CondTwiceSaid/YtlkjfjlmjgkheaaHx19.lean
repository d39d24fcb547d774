import Derived.Test.YtlkjfjlmjgkheaaHx0
namespace Go.Proofs.Ytlkjfjlmjgkheaa.H
open Go.RowKit Go.Proofs.YtlkjfjlmjgkheaaW.PrintWords Go.Proofs.YtlkjfjlmjgkheaaW.PrintLast Go.Proofs.YtlkjfjlmjgkheaaW.PrintMore
attribute [local go_sem] max2_int min2_int max_two min_two max_three min_three max_four min_four
set_option linter.unusedVariables false
set_option linter.unusedSimpArgs false
mutual
def r5_Copy.l0 : Nat → List (S25) → Int → Int → Int → List (S66) → List (S25) → Option (Int × (List (S66)) × (List (S25)))
 | 0, _, _, _, _, _, _ => none
 | k + 1, x14, x15, x16, x296000, x296001, x296002 => if x16 < x15 then (if 0 ≤ x16 then (if x16 < (x14.length : Int) then ((r5_Copy.f k ((rd_T25 x14 x16).f0) ((rd_T25 x14 x16).f1) ((rd_T25 x14 x16).f2)).bind fun bt298 => (if x296002.length < 2513169434916 then (r5_Copy.l0 k x14 x15 (wrap64 (x16 + 1)) x296000 x296001 (x296002 ++ [(⟨bt298.1, bt298.2.1, bt298.2.2⟩ : S25)])) else (none))) else (none)) else (none)) else (some (x296000, x296001, x296002))
def r5_Copy.f : Nat → Int → List (S66) → List (S25) → Option (Int × (List (S66)) × (List (S25)))
 | 0, _, _, _ => none
 | k + 1, a0_0, l0_1, l0_2 => (some (([] : List (S66)) : List (S66))).bind fun y289 => (if y289.length + l0_1.length < 17592186044416 then (r5_Copy.l0 k l0_2 (l0_2.length : Int) 0 a0_0 (y289 ++ l0_1) ([] : List (S25))) else (none))
end
def r5_Copy.T1 : Bool × List (List Nat × List Nat) := (true, [([], []), ([0], [0]), ([], []), ([], []), ([3], [3]), ([2, 4], [2, 4]), ([1, 5], [1, 5]), ([], []), ([7, 6, 5, 0, 1, 2, 3, 4, 5, 6, 7], [6, 7])])
def r5_Copy.B1 : List Nat := [0, 1, 0, 0, 8, 28, 63, 0, 255]
theorem r5_Copy.tab1 : rtab .any (opsOf Try.f15 1) = r5_Copy.T1 := by kernel_rfl
theorem r5_Copy.bits1 : waitsOk r5_Copy.T1.2 r5_Copy.B1 = true := by kernel_rfl
def r5_Copy.T5 : Bool × List (List Nat × List Nat) := (true, [([], []), ([0], [0]), ([], []), ([2], [2]), ([3], [3]), ([1, 4, 3], [1, 4]), ([0, 1, 2, 3, 4, 5], []), ([6, 5, 5, 0, 1, 2, 3, 4, 5], [5, 6])])
def r5_Copy.B5 : List Nat := [0, 1, 0, 4, 12, 31, 63, 127]
theorem r5_Copy.tab5 : rtab .any (opsOf Try.f15 5) = r5_Copy.T5 := by kernel_rfl
theorem r5_Copy.bits5 : waitsOk r5_Copy.T5.2 r5_Copy.B5 = true := by kernel_rfl
set_option maxHeartbeats 8000000 in
set_option maxRecDepth 100000 in
theorem r5_Copy.calls (k : Nat) : ∀ (a0_0 : Int) (A0_1 : Option Addr) (c0_1 : Nat) (l0_1 : List (S66)) (A0_2 : Option Addr) (c0_2 : Nat) (l0_2 : List (S25)) (r1 : Int) (r2 : List (S66)) (r3 : List (S25)) (w : World) (hr0_1 : Kd.C k66 w A0_1 l0_1.length l0_1) (hc0_1 : l0_1.length ≤ c0_1) (hr0_2 : Kd.C k25 w A0_2 l0_2.length l0_2) (hc0_2 : l0_2.length ≤ c0_2) (h : r5_Copy.f k a0_0 l0_1 l0_2 = some (r1, r2, r3)),
 Calls Try.prog 15 #[.agg #[.int .i64 a0_0, .slice A0_1 l0_1.length c0_1, .slice A0_2 l0_2.length c0_2]] w fun e w' => ∃ v1_ v2_ : Value, e = .returned (.agg #[.int .i64 r1, v1_, v2_]) ∧ Kd.R k66 66 w' w.heap.size (fun _ => True) v1_ r2 ∧ Kd.R k25 25 w' w.heap.size (fun k_ => some k_ ≠ (v1_ : Value).ownBlock) v2_ r3 ∧ Below w.heap.size w w' := by
 induction k using Nat.strongRecOn with
 | _ k ih =>
 intro a0_0 A0_1 c0_1 l0_1 A0_2 c0_2 l0_2 r1 r2 r3 w hr0_1 hc0_1 hr0_2 hc0_2 h
 cases k with
 | zero => exact absurd h (by simp [r5_Copy.f])
 | succ k =>
 simp only [r5_Copy.f] at h
 have hu25 := Try.underlying25
 have HR0_1 := aM hr0_1
 have HC0_1 := aM hc0_1
 clear hr0_1 hc0_1
 have HR0_2 := aM hr0_2
 have HC0_2 := aM hc0_2
 clear hr0_2 hc0_2
 have HB := aM (Below.refl w.heap.size w)
 have H : ((some (([] : List (S66)) : List (S66))).bind fun y289 => (if y289.length + l0_1.length < 17592186044416 then (r5_Copy.l0 k l0_2 (l0_2.length : Int) 0 a0_0 (y289 ++ l0_1) ([] : List (S25))) else (none))) = some (r1, r2, r3) := h
 clear h
 obtain ⟨y289, hy289⟩ : ∃ y_ : List (S66), y_ = (([] : List (S66))) := ⟨_, rfl⟩
 replace H : (if y289.length + l0_1.length < 17592186044416 then (r5_Copy.l0 k l0_2 (l0_2.length : Int) 0 a0_0 (y289 ++ l0_1) ([] : List (S25))) else (none)) = some (r1, r2, r3) := by first | (rw [hy289]; with_reducible exact H) | (have H2_ := (Option.bind_some _ _).symm.trans H; rw [hy289]; with_reducible exact H2_) | (have H2_ := (Option.bind_some _ _).symm.trans H; with_reducible exact H2_) | with_reducible exact H | (rw [hy289]; exact H) | exact H
 have Ny289 := aM hy289
 clear hy289
 by_cases c2 : y289.length + l0_1.length < 17592186044416
 · rw [if_pos c2] at H
   have LMc2 := aM c2
   clear c2
   obtain ⟨y292, hy292⟩ : ∃ y_ : List (S66), y_ = (y289 ++ l0_1) := ⟨_, rfl⟩
   replace H : (r5_Copy.l0 k l0_2 (l0_2.length : Int) 0 a0_0 y292 ([] : List (S25))) = some (r1, r2, r3) := by first | (rw [hy292]; with_reducible exact H) | (have H2_ := (Option.bind_some _ _).symm.trans H; rw [hy292]; with_reducible exact H2_) | (have H2_ := (Option.bind_some _ _).symm.trans H; with_reducible exact H2_) | with_reducible exact H | (rw [hy292]; exact H) | exact H
   have Ny292 := aM hy292
   clear hy292
   have H' := aM H
   clear H
   go_enter Try.func15, Try.ntmps15
   try go_wp2_with (first | ((with_reducible refine gate_dst (N := 1) rfl ?_); refine box_event ?hg (N := 1) ?hd (cs := #[.int .i64 a0_0, .slice A0_1 l0_1.length c0_1, .slice A0_2 l0_2.length c0_2]) (t := 25) ?hr ?_; (case hd => rfl); (case hg => rfl); (case hr => first | (go_simp; done) | (go_simp; rfl)); intro gb287 hg w3 hbox hb; have n0_ := aM (below_step (by repeat (first | (with_reducible first | exact HB.out | apply blA | apply blN | apply blD) | exact HB.out)) hb); have n1_ := aM (hbox); have n2_ := aM ((by rw [hg]; exact (below_size (by repeat (first | (with_reducible first | exact HB.out | apply blA | apply blN | apply blD) | exact HB.out))) : w.heap.size ≤ gb287)); have n3_ := aM ((by rw [hg]; exact (below_size (by repeat (first | (with_reducible first | exact HB.out | apply blA | apply blN | apply blD) | exact HB.out))) : w.heap.size ≤ gb287)); clear HB; have HB := n0_; have BK287 := n1_; have GW287 := n2_; have GE287 := n3_; clear n0_ n1_ n2_ n3_; clear hb hbox hg) | ((with_reducible refine gate_dst (N := 2) rfl ?_); refine box_event ?hg (N := 2) ?hd (cs := #[.int .i64 0, .slice none 0 0, .slice none 0 0]) (t := 25) ?hr ?_; (case hd => rfl); (case hg => rfl); (case hr => first | (go_simp; done) | (go_simp; rfl)); intro gb288 hg w4 hbox hb; have n0_ := aM (blk_below (g := gb287) (o := .cells #[.int .i64 a0_0, .slice A0_1 l0_1.length c0_1, .slice A0_2 l0_2.length c0_2] 25 (0, 0)) (up_ BK287.out) hb); have n1_ := aM (below_step (by repeat (first | (with_reducible first | exact HB.out | apply blA | apply blN | apply blD | refine bS ?_ GE287.out) | exact HB.out)) hb); have n2_ := aM (hbox); have n3_ := aM ((by rw [hg]; exact (below_size (by repeat (first | (with_reducible first | exact HB.out | apply blA | apply blN | apply blD | refine bS ?_ GE287.out) | exact HB.out))) : w.heap.size ≤ gb288)); have n4_ := aM ((by rw [hg]; exact (below_size (by repeat (first | (with_reducible first | exact HB.out | apply blA | apply blN | apply blD | refine bS ?_ GE287.out) | exact HB.out))) : w.heap.size ≤ gb288)); have n5_ := aM ((by rw [hg]; exact Nat.ne_of_lt (blk_lt (g := gb287) (o := .cells #[.int .i64 a0_0, .slice A0_1 l0_1.length c0_1, .slice A0_2 l0_2.length c0_2] 25 (0, 0)) (up_ BK287.out)) : gb287 ≠ gb288)); have n6_ := aM ((by rw [hg]; exact Nat.ne_of_gt (blk_lt (g := gb287) (o := .cells #[.int .i64 a0_0, .slice A0_1 l0_1.length c0_1, .slice A0_2 l0_2.length c0_2] 25 (0, 0)) (up_ BK287.out)) : gb288 ≠ gb287)); clear BK287; clear HB; have BK287 := n0_; have HB := n1_; have BK288 := n2_; have GW288 := n3_; have GE288 := n4_; have NB287_288 := n5_; have NB288_287 := n6_; clear n0_ n1_ n2_ n3_ n4_ n5_ n6_; clear hb hbox hg))
   have n0_ := aM (blk_drew BK287.out)
   have n1_ := aM (blk_drew BK288.out)
   have n2_ := aM (below_drew1 HB.out)
   clear BK287
   clear BK288
   clear HB
   have BK287 := n0_
   have BK288 := n1_
   have HB := n2_
   clear n0_ n1_ n2_
   refine start_ (n := 9) (S := fun w' => w'.cell? ⟨gb287, 0, none⟩ = some (.int .i64 a0_0) ∧ w'.cell? ⟨gb287, 1, none⟩ = some (.slice A0_1 l0_1.length c0_1) ∧ w'.cell? ⟨gb287, 2, none⟩ = some (.slice A0_2 l0_2.length c0_2)) (ds := []) (tf 0 9) (by kernel_rfl) rfl rfl ⟨(blk_cell BK287.out 0).trans rfl, (blk_cell BK287.out 1).trans rfl, (blk_cell BK287.out 2).trans rfl⟩ (fun hHeld => ?_); refine with_tabW r5_Copy.tab1 r5_Copy.bits1 (fun HT_ HW_ => ?_)
   generalize w4.drew = w5 at BK287 BK288 HB hHeld ⊢
   refine pure_ (i := 0) (N := some 6) (v := ?_) (a' := ?_) (tf 1 8) rfl rfl (any_of HT_.out (by kernel_rfl)) (fun _ _ _ h => h) (Or.inl ⟨by rfl, ?_⟩) ?_ ?_
   rotate_left
   · intro w'
     go_simp
     with_reducible rfl
   rotate_left
   · simp only [Act.put, sT, sZ, sS, i64_w, i32_w]
     rfl
   refine pure_ (i := 3) (N := some 9) (v := ?_) (a' := ?_) #[true, false, false, true, false, false, false, false, false] rfl rfl (any_of HT_.out (by kernel_rfl)) (fun _ _ _ h => h) (Or.inl ⟨by rfl, ?_⟩) ?_ ?_
   rotate_left
   · intro w'
     go_simp
     with_reducible rfl
   rotate_left
   · simp only [Act.put, sT, sZ, sS, i64_w, i32_w]
     rfl
   refine take_ (i := 1) (N := some 7) (v := ?_) (a' := ?_) #[true, true, false, true, false, false, false, false, false] rfl rfl (take_ofW HT_.out HW_.out (by kernel_rfl)) (fun _ _ _ h => h) (Or.inl ⟨by rfl, ?_⟩) hHeld ?_ ?_
   rotate_left
   · rintro w' ⟨s0, s1, s2⟩
     go_simp
     with_reducible rfl
   rotate_left
   · simp only [Act.put, sT, sZ, sS, i64_w, i32_w]
     rfl
   refine take_ (i := 4) (N := some 10) (v := ?_) (a' := ?_) #[true, true, false, true, true, false, false, false, false] rfl rfl (take_ofW HT_.out HW_.out (by kernel_rfl)) (fun _ _ _ h => h) (Or.inl ⟨by rfl, ?_⟩) hHeld ?_ ?_
   rotate_left
   · rintro w' ⟨s0, s1, s2⟩
     go_simp
     with_reducible rfl
   rotate_left
   · simp only [Act.put, sT, sZ, sS, i64_w, i32_w]
     rfl
   refine join_ (σ := Value × Value × Nat) 1 (tf 8 1) (fun s_ => [(8, s_.1), (11, s_.2.1), (3, .pointer (some ⟨s_.2.2, 0, none⟩)), (12, .agg #[.int .i64 a0_0, s_.2.1, .slice none 0 0])]) (fun s_ w' => (w'.cell? ⟨gb287, 0, none⟩ = some (.int .i64 a0_0) ∧ w'.cell? ⟨gb287, 1, none⟩ = some (.slice A0_1 l0_1.length c0_1) ∧ w'.cell? ⟨gb287, 2, none⟩ = some (.slice A0_2 l0_2.length c0_2)) ∧ (Kd.R k66 66 w' w.heap.size (fun _ => True) s_.2.1 y292) ∧ (w'.heap[gb287]? = some (.cells #[.int .i64 a0_0, .slice A0_1 l0_1.length c0_1, .slice A0_2 l0_2.length c0_2] 25 (0, 0))) ∧ (w'.heap[gb288]? = some (.cells #[.int .i64 0, .slice none 0 0, .slice none 0 0] 25 (0, 0))) ∧ (w'.heap[s_.2.2]? = some (.cells #[.int .i64 0, .slice none 0 0, .slice none 0 0] 25 (0, 0))) ∧ (w.heap.size ≤ s_.2.2) ∧ (w.heap.size ≤ s_.2.2) ∧ (gb287 ≠ s_.2.2) ∧ (s_.2.2 ≠ gb287) ∧ (gb288 ≠ s_.2.2) ∧ (s_.2.2 ≠ gb288) ∧ (Below w.heap.size w w')) ?_ ?_
   rotate_left
   · intro hCont
     refine two_ (i := 2) (j := 7) (Ni := some 8) (Nj := some 3) (tf 5 4) #[true, true, false, true, true, false, false, true, false] rfl rfl rfl rfl (two_of HT_.out (by kernel_rfl)) (by decide) (by decide) (fun K hK => ?_) (fun K hK => ?_)
     · skip
       refine Kd.R_lit_step k66 _ 66 ?hg (N := 8) ?hd (xs := ([] : List (S66))) (inner := []) (ok := fun _ => True) (okp := fun _ => True) ?hr ?hp (fun _ hk => hk) trivial (Below.refl _ _) (Nat.le_refl _) (by simp) ?_; (case hd => rfl); (case hg => rfl); (case hr => first | (go_simp; done) | (go_simp; rfl)); (case hp => exact (Reps.none _ _))
       intro v290 w6 ho7 hb hg_ hnew_
       clear hg_ hnew_
       (first | rw [← Ny289.out] at ho7 | (simp only [Int.reduceToNat] at ho7; rw [← Ny289.out] at ho7))
       have n0_ := aM (Kd.R_lower ho7 (below_size (by repeat (first | (with_reducible first | exact HB.out | apply blA | apply blN | apply blD | refine bS ?_ GE287.out | refine bS ?_ GE288.out) | exact HB.out))))
       have n1_ := aM (blk_below (g := gb287) (o := .cells #[.int .i64 a0_0, .slice A0_1 l0_1.length c0_1, .slice A0_2 l0_2.length c0_2] 25 (0, 0)) (up_ BK287.out) hb)
       have n2_ := aM (blk_below (g := gb288) (o := .cells #[.int .i64 0, .slice none 0 0, .slice none 0 0] 25 (0, 0)) (up_ BK288.out) hb)
       have n3_ := aM (below_step (by repeat (first | (with_reducible first | exact HB.out | apply blA | apply blN | apply blD | refine bS ?_ GE287.out | refine bS ?_ GE288.out) | exact HB.out)) hb)
       clear BK287
       clear BK288
       clear HB
       have HO291 := n0_
       have BK287 := n1_
       have BK288 := n2_
       have HB := n3_
       clear n0_ n1_ n2_ n3_
       clear hb ho7
       refine hK.out _ _ ⟨(blk_cell BK287.out 0).trans rfl, (blk_cell BK287.out 1).trans rfl, (blk_cell BK287.out 2).trans rfl⟩ (fun hHeld => ?_)
       clear hK K
       refine norm_ (a' := ?_) ?_ ?_
       rotate_left
       · show Act.put _ (some 8) _ = _
         simp only [Act.put, sT, sZ, sS, i64_w, i32_w]
         rfl
       refine two_ (i := 5) (j := 7) (Ni := some 11) (Nj := some 3) (tf 6 3) #[true, true, true, true, true, false, false, true, false] rfl rfl rfl rfl (two_of HT_.out (by kernel_rfl)) (by decide) (by decide) (fun K hK => ?_) (fun K hK => ?_)
       · skip
         refine Kd.R_append_rows_step k66 (w0 := w) w.heap.size (by rfl) (.tmp 8) (.tmp 10) 22 66 (.agg #[(.int .u32 0), (.int .u32 0)]) 8 rfl Try.underlying22 info66 rfl (by decide) (by omega) v290 y289 l0_1 _ _ _ (fun _ => True) (fun _ => False) rfl rfl ?aO ?aR (fun _ _ h => h) (fun _ h => h.elim) ?aF ?aB ?aS ?aL ?_
         (case aR => repeat (first | exact (Kd.C_below HR0_1.out HB.out) | (with_reducible refine Kd.C_alloc ?_ _) | (with_reducible refine Kd.C_drewN ?_ _) | (with_reducible refine Kd.C_drew ?_)))
         (case aB => exact (by repeat (first | (with_reducible first | exact HB.out | apply blA | apply blN | apply blD | refine bS ?_ GE287.out | refine bS ?_ GE288.out) | exact HB.out)))
         (case aF => exact (fun _ _ => trivial))
         (case aO => exact (uk_ HO291.out))
         (case aS => exact (below_size (by repeat (first | (with_reducible first | exact HB.out | apply blA | apply blN | apply blD | refine bS ?_ GE287.out | refine bS ?_ GE288.out) | exact HB.out))))
         (case aL => have := LMc2.out; omega)
         intro v293 w8 ho hb hg hat
         rw [← Ny292.out] at ho
         have n0_ := aM (blk_grown (g := gb287) (o := .cells #[.int .i64 a0_0, .slice A0_1 l0_1.length c0_1, .slice A0_2 l0_2.length c0_2] 25 (0, 0)) (up_ BK287.out) hg (Kd.R_ne HO291.out BK287.out (by decide)))
         have n1_ := aM (blk_grown (g := gb288) (o := .cells #[.int .i64 0, .slice none 0 0, .slice none 0 0] 25 (0, 0)) (up_ BK288.out) hg (Kd.R_ne HO291.out BK288.out (by decide)))
         have n2_ := aM (hb)
         have n3_ := aM (ho)
         clear BK287
         clear BK288
         clear HB
         clear HO291
         have BK287 := n0_
         have BK288 := n1_
         have HB := n2_
         have HO294 := n3_
         clear n0_ n1_ n2_ n3_
         clear ho hb hg hat
         obtain ⟨Ao9, co9, eo9⟩ := Kd.R_slice HO294.out
         (first | subst eo9 | (injection eo9 with f1_ f2_ f3_; have f4_ := f1_.symm; have f5_ := f3_.symm; clear f1_ f2_ f3_; subst f4_; subst f5_))
         refine hK.out _ _ ⟨(blk_cell BK287.out 0).trans rfl, (blk_cell BK287.out 1).trans rfl, (blk_cell BK287.out 2).trans rfl⟩ (fun hHeld => ?_)
         clear hK K
         refine norm_ (a' := ?_) ?_ ?_
         rotate_left
         · show Act.put _ (some 11) _ = _
           simp only [Act.put, sT, sZ, sS, i64_w, i32_w]
           rfl
         refine pure_ (i := 6) (N := some 12) (v := ?_) (a' := ?_) (tf 7 2) rfl rfl (any_of HT_.out (by kernel_rfl)) (fun _ _ _ h => h) (Or.inl ⟨by rfl, ?_⟩) ?_ ?_
         rotate_left
         · intro w'
           go_simp
           with_reducible rfl
         rotate_left
         · simp only [Act.put, sT, sZ, sS, i64_w, i32_w]
           rfl
         refine one_ (i := 7) (N := some 3) (tf 8 1) rfl rfl (one_of HT_.out (by kernel_rfl)) (by decide) (fun K hK => ?_)
         refine box_step ?hg (N := 3) ?hd (cs := #[.int .i64 0, .slice none 0 0, .slice none 0 0]) (t := 25) ?hr ?_; (case hd => rfl); (case hg => rfl); (case hr => first | (go_simp; done) | (go_simp; rfl))
         intro gb295 hg w10 hbox hb
         have n0_ := aM (Kd.R_below (uk_ HO294.out) hb)
         have n1_ := aM (blk_below (g := gb287) (o := .cells #[.int .i64 a0_0, .slice A0_1 l0_1.length c0_1, .slice A0_2 l0_2.length c0_2] 25 (0, 0)) (up_ BK287.out) hb)
         have n2_ := aM (blk_below (g := gb288) (o := .cells #[.int .i64 0, .slice none 0 0, .slice none 0 0] 25 (0, 0)) (up_ BK288.out) hb)
         have n3_ := aM (below_step (by repeat (first | (with_reducible first | exact HB.out | apply blA | apply blN | apply blD | refine bS ?_ GE287.out | refine bS ?_ GE288.out) | exact HB.out)) hb)
         have n4_ := aM (hbox)
         have n5_ := aM ((by rw [hg]; exact (below_size (by repeat (first | (with_reducible first | exact HB.out | apply blA | apply blN | apply blD | refine bS ?_ GE287.out | refine bS ?_ GE288.out) | exact HB.out))) : w.heap.size ≤ gb295))
         have n6_ := aM ((by rw [hg]; exact (below_size (by repeat (first | (with_reducible first | exact HB.out | apply blA | apply blN | apply blD | refine bS ?_ GE287.out | refine bS ?_ GE288.out) | exact HB.out))) : w.heap.size ≤ gb295))
         have n7_ := aM ((by rw [hg]; exact Nat.ne_of_lt (blk_lt (g := gb287) (o := .cells #[.int .i64 a0_0, .slice A0_1 l0_1.length c0_1, .slice A0_2 l0_2.length c0_2] 25 (0, 0)) (up_ BK287.out)) : gb287 ≠ gb295))
         have n8_ := aM ((by rw [hg]; exact Nat.ne_of_gt (blk_lt (g := gb287) (o := .cells #[.int .i64 a0_0, .slice A0_1 l0_1.length c0_1, .slice A0_2 l0_2.length c0_2] 25 (0, 0)) (up_ BK287.out)) : gb295 ≠ gb287))
         have n9_ := aM ((by rw [hg]; exact Nat.ne_of_lt (blk_lt (g := gb288) (o := .cells #[.int .i64 0, .slice none 0 0, .slice none 0 0] 25 (0, 0)) (up_ BK288.out)) : gb288 ≠ gb295))
         have n10_ := aM ((by rw [hg]; exact Nat.ne_of_gt (blk_lt (g := gb288) (o := .cells #[.int .i64 0, .slice none 0 0, .slice none 0 0] 25 (0, 0)) (up_ BK288.out)) : gb295 ≠ gb288))
         clear HO294
         clear BK287
         clear BK288
         clear HB
         have HO294 := n0_
         have BK287 := n1_
         have BK288 := n2_
         have HB := n3_
         have BK295 := n4_
         have GW295 := n5_
         have GE295 := n6_
         have NB287_295 := n7_
         have NB295_287 := n8_
         have NB288_295 := n9_
         have NB295_288 := n10_
         clear n0_ n1_ n2_ n3_ n4_ n5_ n6_ n7_ n8_ n9_ n10_
         clear hb hbox hg
         refine hK.out _ _ ⟨(blk_cell BK287.out 0).trans rfl, (blk_cell BK287.out 1).trans rfl, (blk_cell BK287.out 2).trans rfl⟩ (fun hHeld => ?_)
         clear hK K
         refine norm_ (a' := ?_) ?_ ?_
         rotate_left
         · show Act.put _ (some 3) _ = _
           simp only [Act.put, sT, sZ, sS, i64_w, i32_w]
           rfl
         exact norm_ (by simp only [putAll, Act.put, sT, sZ, sS]) (hCont (v290, .slice Ao9 y292.length co9, gb295) _ ⟨hHeld, (uk_ HO294.out), (up_ BK287.out), (up_ BK288.out), (up_ BK295.out), GW295.out, GE295.out, NB287_295.out, NB295_287.out, NB288_295.out, NB295_288.out, (by repeat (first | (with_reducible first | exact HB.out | apply blA | apply blN | apply blD | refine bS ?_ GE287.out | refine bS ?_ GE288.out | refine bS ?_ GE295.out) | exact HB.out))⟩)
       · skip
         refine box_step ?hg (N := 3) ?hd (cs := #[.int .i64 0, .slice none 0 0, .slice none 0 0]) (t := 25) ?hr ?_; (case hd => rfl); (case hg => rfl); (case hr => first | (go_simp; done) | (go_simp; rfl))
         intro gb295 hg w8 hbox hb
         have n0_ := aM (Kd.R_below (uk_ HO291.out) hb)
         have n1_ := aM (blk_below (g := gb287) (o := .cells #[.int .i64 a0_0, .slice A0_1 l0_1.length c0_1, .slice A0_2 l0_2.length c0_2] 25 (0, 0)) (up_ BK287.out) hb)
         have n2_ := aM (blk_below (g := gb288) (o := .cells #[.int .i64 0, .slice none 0 0, .slice none 0 0] 25 (0, 0)) (up_ BK288.out) hb)
         have n3_ := aM (below_step (by repeat (first | (with_reducible first | exact HB.out | apply blA | apply blN | apply blD | refine bS ?_ GE287.out | refine bS ?_ GE288.out) | exact HB.out)) hb)
         have n4_ := aM (hbox)
         have n5_ := aM ((by rw [hg]; exact (below_size (by repeat (first | (with_reducible first | exact HB.out | apply blA | apply blN | apply blD | refine bS ?_ GE287.out | refine bS ?_ GE288.out) | exact HB.out))) : w.heap.size ≤ gb295))
         have n6_ := aM ((by rw [hg]; exact (below_size (by repeat (first | (with_reducible first | exact HB.out | apply blA | apply blN | apply blD | refine bS ?_ GE287.out | refine bS ?_ GE288.out) | exact HB.out))) : w.heap.size ≤ gb295))
         have n7_ := aM ((by rw [hg]; exact Nat.ne_of_lt (blk_lt (g := gb287) (o := .cells #[.int .i64 a0_0, .slice A0_1 l0_1.length c0_1, .slice A0_2 l0_2.length c0_2] 25 (0, 0)) (up_ BK287.out)) : gb287 ≠ gb295))
         have n8_ := aM ((by rw [hg]; exact Nat.ne_of_gt (blk_lt (g := gb287) (o := .cells #[.int .i64 a0_0, .slice A0_1 l0_1.length c0_1, .slice A0_2 l0_2.length c0_2] 25 (0, 0)) (up_ BK287.out)) : gb295 ≠ gb287))
         have n9_ := aM ((by rw [hg]; exact Nat.ne_of_lt (blk_lt (g := gb288) (o := .cells #[.int .i64 0, .slice none 0 0, .slice none 0 0] 25 (0, 0)) (up_ BK288.out)) : gb288 ≠ gb295))
         have n10_ := aM ((by rw [hg]; exact Nat.ne_of_gt (blk_lt (g := gb288) (o := .cells #[.int .i64 0, .slice none 0 0, .slice none 0 0] 25 (0, 0)) (up_ BK288.out)) : gb295 ≠ gb288))
         clear HO291
         clear BK287
         clear BK288
         clear HB
         have HO291 := n0_
         have BK287 := n1_
         have BK288 := n2_
         have HB := n3_
         have BK295 := n4_
         have GW295 := n5_
         have GE295 := n6_
         have NB287_295 := n7_
         have NB295_287 := n8_
         have NB288_295 := n9_
         have NB295_288 := n10_
         clear n0_ n1_ n2_ n3_ n4_ n5_ n6_ n7_ n8_ n9_ n10_
         clear hb hbox hg
         refine hK.out _ _ ⟨(blk_cell BK287.out 0).trans rfl, (blk_cell BK287.out 1).trans rfl, (blk_cell BK287.out 2).trans rfl⟩ (fun hHeld => ?_)
         clear hK K
         refine norm_ (a' := ?_) ?_ ?_
         rotate_left
         · show Act.put _ (some 3) _ = _
           simp only [Act.put, sT, sZ, sS, i64_w, i32_w]
           rfl
         refine one_ (i := 5) (N := some 11) #[true, true, true, true, true, true, false, true, false] rfl rfl (one_of HT_.out (by kernel_rfl)) (by decide) (fun K hK => ?_)
         refine Kd.R_append_rows_step k66 (w0 := w) w.heap.size (by rfl) (.tmp 8) (.tmp 10) 22 66 (.agg #[(.int .u32 0), (.int .u32 0)]) 8 rfl Try.underlying22 info66 rfl (by decide) (by omega) v290 y289 l0_1 _ _ _ (fun _ => True) (fun _ => False) rfl rfl ?aO ?aR (fun _ _ h => h) (fun _ h => h.elim) ?aF ?aB ?aS ?aL ?_
         (case aR => repeat (first | exact (Kd.C_below HR0_1.out HB.out) | (with_reducible refine Kd.C_alloc ?_ _) | (with_reducible refine Kd.C_drewN ?_ _) | (with_reducible refine Kd.C_drew ?_)))
         (case aB => exact (by repeat (first | (with_reducible first | exact HB.out | apply blA | apply blN | apply blD | refine bS ?_ GE287.out | refine bS ?_ GE288.out | refine bS ?_ GE295.out) | exact HB.out)))
         (case aF => exact (fun _ _ => trivial))
         (case aO => exact (uk_ HO291.out))
         (case aS => exact (below_size (by repeat (first | (with_reducible first | exact HB.out | apply blA | apply blN | apply blD | refine bS ?_ GE287.out | refine bS ?_ GE288.out | refine bS ?_ GE295.out) | exact HB.out))))
         (case aL => have := LMc2.out; omega)
         intro v293 w9 ho hb hg hat
         rw [← Ny292.out] at ho
         have n0_ := aM (blk_grown (g := gb287) (o := .cells #[.int .i64 a0_0, .slice A0_1 l0_1.length c0_1, .slice A0_2 l0_2.length c0_2] 25 (0, 0)) (up_ BK287.out) hg (Kd.R_ne HO291.out BK287.out (by decide)))
         have n1_ := aM (blk_grown (g := gb288) (o := .cells #[.int .i64 0, .slice none 0 0, .slice none 0 0] 25 (0, 0)) (up_ BK288.out) hg (Kd.R_ne HO291.out BK288.out (by decide)))
         have n2_ := aM (blk_grown (g := gb295) (o := .cells #[.int .i64 0, .slice none 0 0, .slice none 0 0] 25 (0, 0)) (up_ BK295.out) hg (Kd.R_ne HO291.out BK295.out (by decide)))
         have n3_ := aM (hb)
         have n4_ := aM (ho)
         clear BK287
         clear BK288
         clear BK295
         clear HB
         clear HO291
         have BK287 := n0_
         have BK288 := n1_
         have BK295 := n2_
         have HB := n3_
         have HO294 := n4_
         clear n0_ n1_ n2_ n3_ n4_
         clear ho hb hg hat
         obtain ⟨Ao10, co10, eo10⟩ := Kd.R_slice HO294.out
         (first | subst eo10 | (injection eo10 with f1_ f2_ f3_; have f4_ := f1_.symm; have f5_ := f3_.symm; clear f1_ f2_ f3_; subst f4_; subst f5_))
         refine hK.out _ _ ⟨(blk_cell BK287.out 0).trans rfl, (blk_cell BK287.out 1).trans rfl, (blk_cell BK287.out 2).trans rfl⟩ (fun hHeld => ?_)
         clear hK K
         refine norm_ (a' := ?_) ?_ ?_
         rotate_left
         · show Act.put _ (some 11) _ = _
           simp only [Act.put, sT, sZ, sS, i64_w, i32_w]
           rfl
         refine pure_ (i := 6) (N := some 12) (v := ?_) (a' := ?_) (tf 8 1) rfl rfl (any_of HT_.out (by kernel_rfl)) (fun _ _ _ h => h) (Or.inl ⟨by rfl, ?_⟩) ?_ ?_
         rotate_left
         · intro w'
           go_simp
           with_reducible rfl
         rotate_left
         · simp only [Act.put, sT, sZ, sS, i64_w, i32_w]
           rfl
         exact norm_ (by simp only [putAll, Act.put, sT, sZ, sS]) (hCont (v290, .slice Ao10 y292.length co10, gb295) _ ⟨hHeld, (uk_ HO294.out), (up_ BK287.out), (up_ BK288.out), (up_ BK295.out), GW295.out, GE295.out, NB287_295.out, NB295_287.out, NB288_295.out, NB295_288.out, (by repeat (first | (with_reducible first | exact HB.out | apply blA | apply blN | apply blD | refine bS ?_ GE287.out | refine bS ?_ GE288.out | refine bS ?_ GE295.out) | exact HB.out))⟩)
     · skip
       refine box_step ?hg (N := 3) ?hd (cs := #[.int .i64 0, .slice none 0 0, .slice none 0 0]) (t := 25) ?hr ?_; (case hd => rfl); (case hg => rfl); (case hr => first | (go_simp; done) | (go_simp; rfl))
       intro gb295 hg w6 hbox hb
       have n0_ := aM (blk_below (g := gb287) (o := .cells #[.int .i64 a0_0, .slice A0_1 l0_1.length c0_1, .slice A0_2 l0_2.length c0_2] 25 (0, 0)) (up_ BK287.out) hb)
       have n1_ := aM (blk_below (g := gb288) (o := .cells #[.int .i64 0, .slice none 0 0, .slice none 0 0] 25 (0, 0)) (up_ BK288.out) hb)
       have n2_ := aM (below_step (by repeat (first | (with_reducible first | exact HB.out | apply blA | apply blN | apply blD | refine bS ?_ GE287.out | refine bS ?_ GE288.out) | exact HB.out)) hb)
       have n3_ := aM (hbox)
       have n4_ := aM ((by rw [hg]; exact (below_size (by repeat (first | (with_reducible first | exact HB.out | apply blA | apply blN | apply blD | refine bS ?_ GE287.out | refine bS ?_ GE288.out) | exact HB.out))) : w.heap.size ≤ gb295))
       have n5_ := aM ((by rw [hg]; exact (below_size (by repeat (first | (with_reducible first | exact HB.out | apply blA | apply blN | apply blD | refine bS ?_ GE287.out | refine bS ?_ GE288.out) | exact HB.out))) : w.heap.size ≤ gb295))
       have n6_ := aM ((by rw [hg]; exact Nat.ne_of_lt (blk_lt (g := gb287) (o := .cells #[.int .i64 a0_0, .slice A0_1 l0_1.length c0_1, .slice A0_2 l0_2.length c0_2] 25 (0, 0)) (up_ BK287.out)) : gb287 ≠ gb295))
       have n7_ := aM ((by rw [hg]; exact Nat.ne_of_gt (blk_lt (g := gb287) (o := .cells #[.int .i64 a0_0, .slice A0_1 l0_1.length c0_1, .slice A0_2 l0_2.length c0_2] 25 (0, 0)) (up_ BK287.out)) : gb295 ≠ gb287))
       have n8_ := aM ((by rw [hg]; exact Nat.ne_of_lt (blk_lt (g := gb288) (o := .cells #[.int .i64 0, .slice none 0 0, .slice none 0 0] 25 (0, 0)) (up_ BK288.out)) : gb288 ≠ gb295))
       have n9_ := aM ((by rw [hg]; exact Nat.ne_of_gt (blk_lt (g := gb288) (o := .cells #[.int .i64 0, .slice none 0 0, .slice none 0 0] 25 (0, 0)) (up_ BK288.out)) : gb295 ≠ gb288))
       clear BK287
       clear BK288
       clear HB
       have BK287 := n0_
       have BK288 := n1_
       have HB := n2_
       have BK295 := n3_
       have GW295 := n4_
       have GE295 := n5_
       have NB287_295 := n6_
       have NB295_287 := n7_
       have NB288_295 := n8_
       have NB295_288 := n9_
       clear n0_ n1_ n2_ n3_ n4_ n5_ n6_ n7_ n8_ n9_
       clear hb hbox hg
       refine hK.out _ _ ⟨(blk_cell BK287.out 0).trans rfl, (blk_cell BK287.out 1).trans rfl, (blk_cell BK287.out 2).trans rfl⟩ (fun hHeld => ?_)
       clear hK K
       refine norm_ (a' := ?_) ?_ ?_
       rotate_left
       · show Act.put _ (some 3) _ = _
         simp only [Act.put, sT, sZ, sS, i64_w, i32_w]
         rfl
       refine one_ (i := 2) (N := some 8) #[true, true, true, true, true, false, false, true, false] rfl rfl (one_of HT_.out (by kernel_rfl)) (by decide) (fun K hK => ?_)
       refine Kd.R_lit_step k66 _ 66 ?hg (N := 8) ?hd (xs := ([] : List (S66))) (inner := []) (ok := fun _ => True) (okp := fun _ => True) ?hr ?hp (fun _ hk => hk) trivial (Below.refl _ _) (Nat.le_refl _) (by simp) ?_; (case hd => rfl); (case hg => rfl); (case hr => first | (go_simp; done) | (go_simp; rfl)); (case hp => exact (Reps.none _ _))
       intro v290 w7 ho8 hb hg_ hnew_
       clear hg_ hnew_
       (first | rw [← Ny289.out] at ho8 | (simp only [Int.reduceToNat] at ho8; rw [← Ny289.out] at ho8))
       have n0_ := aM (Kd.R_lower ho8 (below_size (by repeat (first | (with_reducible first | exact HB.out | apply blA | apply blN | apply blD | refine bS ?_ GE287.out | refine bS ?_ GE288.out | refine bS ?_ GE295.out) | exact HB.out))))
       have n1_ := aM (blk_below (g := gb287) (o := .cells #[.int .i64 a0_0, .slice A0_1 l0_1.length c0_1, .slice A0_2 l0_2.length c0_2] 25 (0, 0)) (up_ BK287.out) hb)
       have n2_ := aM (blk_below (g := gb288) (o := .cells #[.int .i64 0, .slice none 0 0, .slice none 0 0] 25 (0, 0)) (up_ BK288.out) hb)
       have n3_ := aM (blk_below (g := gb295) (o := .cells #[.int .i64 0, .slice none 0 0, .slice none 0 0] 25 (0, 0)) (up_ BK295.out) hb)
       have n4_ := aM (below_step (by repeat (first | (with_reducible first | exact HB.out | apply blA | apply blN | apply blD | refine bS ?_ GE287.out | refine bS ?_ GE288.out | refine bS ?_ GE295.out) | exact HB.out)) hb)
       clear BK287
       clear BK288
       clear BK295
       clear HB
       have HO291 := n0_
       have BK287 := n1_
       have BK288 := n2_
       have BK295 := n3_
       have HB := n4_
       clear n0_ n1_ n2_ n3_ n4_
       clear hb ho8
       refine hK.out _ _ ⟨(blk_cell BK287.out 0).trans rfl, (blk_cell BK287.out 1).trans rfl, (blk_cell BK287.out 2).trans rfl⟩ (fun hHeld => ?_)
       clear hK K
       refine norm_ (a' := ?_) ?_ ?_
       rotate_left
       · show Act.put _ (some 8) _ = _
         simp only [Act.put, sT, sZ, sS, i64_w, i32_w]
         rfl
       refine one_ (i := 5) (N := some 11) #[true, true, true, true, true, true, false, true, false] rfl rfl (one_of HT_.out (by kernel_rfl)) (by decide) (fun K hK => ?_)
       refine Kd.R_append_rows_step k66 (w0 := w) w.heap.size (by rfl) (.tmp 8) (.tmp 10) 22 66 (.agg #[(.int .u32 0), (.int .u32 0)]) 8 rfl Try.underlying22 info66 rfl (by decide) (by omega) v290 y289 l0_1 _ _ _ (fun _ => True) (fun _ => False) rfl rfl ?aO ?aR (fun _ _ h => h) (fun _ h => h.elim) ?aF ?aB ?aS ?aL ?_
       (case aR => repeat (first | exact (Kd.C_below HR0_1.out HB.out) | (with_reducible refine Kd.C_alloc ?_ _) | (with_reducible refine Kd.C_drewN ?_ _) | (with_reducible refine Kd.C_drew ?_)))
       (case aB => exact (by repeat (first | (with_reducible first | exact HB.out | apply blA | apply blN | apply blD | refine bS ?_ GE287.out | refine bS ?_ GE288.out | refine bS ?_ GE295.out) | exact HB.out)))
       (case aF => exact (fun _ _ => trivial))
       (case aO => exact (uk_ HO291.out))
       (case aS => exact (below_size (by repeat (first | (with_reducible first | exact HB.out | apply blA | apply blN | apply blD | refine bS ?_ GE287.out | refine bS ?_ GE288.out | refine bS ?_ GE295.out) | exact HB.out))))
       (case aL => have := LMc2.out; omega)
       intro v293 w9 ho hb hg hat
       rw [← Ny292.out] at ho
       have n0_ := aM (blk_grown (g := gb287) (o := .cells #[.int .i64 a0_0, .slice A0_1 l0_1.length c0_1, .slice A0_2 l0_2.length c0_2] 25 (0, 0)) (up_ BK287.out) hg (Kd.R_ne HO291.out BK287.out (by decide)))
       have n1_ := aM (blk_grown (g := gb288) (o := .cells #[.int .i64 0, .slice none 0 0, .slice none 0 0] 25 (0, 0)) (up_ BK288.out) hg (Kd.R_ne HO291.out BK288.out (by decide)))
       have n2_ := aM (blk_grown (g := gb295) (o := .cells #[.int .i64 0, .slice none 0 0, .slice none 0 0] 25 (0, 0)) (up_ BK295.out) hg (Kd.R_ne HO291.out BK295.out (by decide)))
       have n3_ := aM (hb)
       have n4_ := aM (ho)
       clear BK287
       clear BK288
       clear BK295
       clear HB
       clear HO291
       have BK287 := n0_
       have BK288 := n1_
       have BK295 := n2_
       have HB := n3_
       have HO294 := n4_
       clear n0_ n1_ n2_ n3_ n4_
       clear ho hb hg hat
       obtain ⟨Ao10, co10, eo10⟩ := Kd.R_slice HO294.out
       (first | subst eo10 | (injection eo10 with f1_ f2_ f3_; have f4_ := f1_.symm; have f5_ := f3_.symm; clear f1_ f2_ f3_; subst f4_; subst f5_))
       refine hK.out _ _ ⟨(blk_cell BK287.out 0).trans rfl, (blk_cell BK287.out 1).trans rfl, (blk_cell BK287.out 2).trans rfl⟩ (fun hHeld => ?_)
       clear hK K
       refine norm_ (a' := ?_) ?_ ?_
       rotate_left
       · show Act.put _ (some 11) _ = _
         simp only [Act.put, sT, sZ, sS, i64_w, i32_w]
         rfl
       refine pure_ (i := 6) (N := some 12) (v := ?_) (a' := ?_) (tf 8 1) rfl rfl (any_of HT_.out (by kernel_rfl)) (fun _ _ _ h => h) (Or.inl ⟨by rfl, ?_⟩) ?_ ?_
       rotate_left
       · intro w'
         go_simp
         with_reducible rfl
       rotate_left
       · simp only [Act.put, sT, sZ, sS, i64_w, i32_w]
         rfl
       exact norm_ (by simp only [putAll, Act.put, sT, sZ, sS]) (hCont (v290, .slice Ao10 y292.length co10, gb295) _ ⟨hHeld, (uk_ HO294.out), (up_ BK287.out), (up_ BK288.out), (up_ BK295.out), GW295.out, GE295.out, NB287_295.out, NB295_287.out, NB288_295.out, NB295_288.out, (by repeat (first | (with_reducible first | exact HB.out | apply blA | apply blN | apply blD | refine bS ?_ GE287.out | refine bS ?_ GE288.out | refine bS ?_ GE295.out) | exact HB.out))⟩)
   rintro ⟨v290, v293, gb295⟩ w11 ⟨hS_, h0_, h1_, h2_, h3_, h4_, h5_, h6_, h7_, h8_, h9_, h10_⟩
   have n0_ : Aside0 (Kd.R k66 66 w11 w.heap.size (fun _ => True) v293 y292) := ⟨h0_⟩
   have n1_ : Aside0 (w11.heap[gb287]? = some (.cells #[.int .i64 a0_0, .slice A0_1 l0_1.length c0_1, .slice A0_2 l0_2.length c0_2] 25 (0, 0))) := ⟨h1_⟩
   have n2_ : Aside0 (w11.heap[gb288]? = some (.cells #[.int .i64 0, .slice none 0 0, .slice none 0 0] 25 (0, 0))) := ⟨h2_⟩
   have n3_ : Aside0 (w11.heap[gb295]? = some (.cells #[.int .i64 0, .slice none 0 0, .slice none 0 0] 25 (0, 0))) := ⟨h3_⟩
   have n4_ : Aside0 (w.heap.size ≤ gb295) := ⟨h4_⟩
   have n5_ : Aside0 (w.heap.size ≤ gb295) := ⟨h5_⟩
   have n6_ : Aside0 (gb287 ≠ gb295) := ⟨h6_⟩
   have n7_ : Aside0 (gb295 ≠ gb287) := ⟨h7_⟩
   have n8_ : Aside0 (gb288 ≠ gb295) := ⟨h8_⟩
   have n9_ : Aside0 (gb295 ≠ gb288) := ⟨h9_⟩
   have n10_ : Aside0 (Below w.heap.size w w11) := ⟨h10_⟩
   clear BK287
   clear BK288
   clear HB
   clear h0_ h1_ h2_ h3_ h4_ h5_ h6_ h7_ h8_ h9_ h10_
   have HO294 := n0_
   have BK287 := n1_
   have BK288 := n2_
   have BK295 := n3_
   have GW295 := n4_
   have GE295 := n5_
   have NB287_295 := n6_
   have NB295_287 := n7_
   have NB288_295 := n8_
   have NB295_288 := n9_
   have HB := n10_
   clear n0_ n1_ n2_ n3_ n4_ n5_ n6_ n7_ n8_ n9_ n10_
   have hHeld : w11.cell? ⟨gb287, 0, none⟩ = some (.int .i64 a0_0) ∧ w11.cell? ⟨gb287, 1, none⟩ = some (.slice A0_1 l0_1.length c0_1) ∧ w11.cell? ⟨gb287, 2, none⟩ = some (.slice A0_2 l0_2.length c0_2) := hS_
   obtain ⟨Ao12, co12, eo12⟩ := Kd.R_slice HO294.out
   (first | subst eo12 | (injection eo12 with f1_ f2_ f3_; have f4_ := f1_.symm; have f5_ := f3_.symm; clear f1_ f2_ f3_; subst f4_; subst f5_))
   refine norm_ (a' := ?_) ?_ ?_
   rotate_left
   · simp only [putAll, Act.put, sT, sZ, sS]
     rfl
   refine one_ (i := 8) (N := none) (tf 9 0) rfl rfl (one_of HT_.out (by kernel_rfl)) (by decide) (fun K hK => ?_)
   have hs13 : w11.cell? ⟨gb295, 0, none⟩ = some (.int .i64 0) := (blk_cell BK295.out 0).trans rfl
   have hfs13 := bF BK295.out 0
   have hns13_0 := NB287_295.out
   have hns13_1 := NB288_295.out
   have hms13_0 := NB295_287.out
   have hms13_1 := NB295_288.out
   have hs14 : w11.cell? ⟨gb295, 1, none⟩ = some (.slice none 0 0) := (blk_cell BK295.out 1).trans rfl
   have hfs14 := bF BK295.out 1
   have hns14_0 := NB287_295.out
   have hns14_1 := NB288_295.out
   have hms14_0 := NB295_287.out
   have hms14_1 := NB295_288.out
   have hs15 : w11.cell? ⟨gb295, 2, none⟩ = some (.slice none 0 0) := (blk_cell BK295.out 2).trans rfl
   have hfs15 := bF BK295.out 2
   have hns15_0 := NB287_295.out
   have hns15_1 := NB288_295.out
   have hms15_0 := NB295_287.out
   have hms15_1 := NB295_288.out
   refine skip_ (w1 := ?_) (by rfl) rfl ?_ ?_
   rotate_left
   · go_simp
     rfl
   refine hK.out _ _ ⟨((cell_far (p := ⟨gb295, _, none⟩) NB287_295.out _).trans (((cell_far (p := ⟨gb295, _, none⟩) NB287_295.out _).trans (((cell_far (p := ⟨gb295, _, none⟩) NB287_295.out _).trans (hHeld.1)))))), ((cell_far (p := ⟨gb295, _, none⟩) NB287_295.out _).trans (((cell_far (p := ⟨gb295, _, none⟩) NB287_295.out _).trans (((cell_far (p := ⟨gb295, _, none⟩) NB287_295.out _).trans (hHeld.2.1)))))), ((cell_far (p := ⟨gb295, _, none⟩) NB287_295.out _).trans (((cell_far (p := ⟨gb295, _, none⟩) NB287_295.out _).trans (((cell_far (p := ⟨gb295, _, none⟩) NB287_295.out _).trans (hHeld.2.2))))))⟩ (fun hHeld => ?_)
   clear hK K
   refine done_ (done_of HT_.out (by kernel_rfl)) ?_
   have hnb16 := NB287_288.out
   have hnc16 := NB288_287.out
   have hnb17 := NB287_295.out
   have hnc17 := NB295_287.out
   have hcz18_0 : w11.cell? ⟨gb287, 0, none⟩ = some (.int .i64 a0_0) := (blk_cell BK287.out 0).trans rfl
   have hcz18_1 : w11.cell? ⟨gb287, 1, none⟩ = some (.slice A0_1 l0_1.length c0_1) := (blk_cell BK287.out 1).trans rfl
   have hcz18_2 : w11.cell? ⟨gb287, 2, none⟩ = some (.slice A0_2 l0_2.length c0_2) := (blk_cell BK287.out 2).trans rfl
   have hfz18_0 := bF BK287.out 0
   have hfz18_1 := bF BK287.out 1
   have hfz18_2 := bF BK287.out 2
   try go_wp2
   go_loopg [16] k (fun kq v16 w' => ∃ (x16_1 : Int) (x296002_1 : List (S25)) (u296002 : Value), v16 = .int .i64 x16_1 ∧ Aside0 (r5_Copy.l0 kq l0_2 (l0_2.length : Int) x16_1 a0_0 y292 x296002_1 = some (r1, r2, r3)) ∧ Aside0 (kq ≤ k) ∧ Aside0 (Kd.R k66 66 w' w.heap.size (fun _ => True) (.slice Ao12 y292.length co12) y292) ∧ Aside0 (Kd.R k25 25 w' w.heap.size (fun k_ => some k_ ≠ ((.slice Ao12 y292.length co12) : Value).ownBlock ∧ k_ ≠ gb287 ∧ k_ ≠ gb288 ∧ k_ ≠ gb295) u296002 x296002_1) ∧ Aside0 (w'.heap[gb287]? = some (.cells #[.int .i64 a0_0, (.slice A0_1 l0_1.length c0_1), (.slice A0_2 l0_2.length c0_2)] 25 (0, 0))) ∧ Aside0 (w'.heap[gb288]? = some (.cells #[.int .i64 0, (.slice none 0 0), (.slice none 0 0)] 25 (0, 0))) ∧ Aside0 (w'.heap[gb295]? = some (.cells #[.int .i64 a0_0, (.slice Ao12 y292.length co12), u296002] 25 (0, 0))) ∧ Aside0 (Below w.heap.size w w'))
   case atStart => exact ⟨(0), (([] : List (S25))), (.slice none 0 0), (by first | rfl | (simp; done) | (simp [*]; done)), H', ⟨Nat.le_refl _⟩, ⟨by (with_reducible repeat (first | apply kA | apply kN | apply kD)); exact Kd.R_mono (Kd.R_far (p := ⟨gb295, 2, none⟩) (Kd.R_far (p := ⟨gb295, 1, none⟩) (Kd.R_far (p := ⟨gb295, 0, none⟩) (Kd.R_types HO294.out BK295.out (by decide)) (fun _ hk => hk.2) (.int .i64 a0_0)) (fun _ hk => hk.2) (.slice Ao12 y292.length co12)) (fun _ hk => hk.2) (.slice none 0 0)) (fun _ hk => trivial)⟩, ⟨by first | exact Kd.R_nil _ _ _ _ _ | exact Kd.N_nil _ _ _ _ _ | exact Kd.V_nil _ _ _ _ _ | exact Kd.Q_nil _ _ _ _ _ | exact Kd.S_nil _ _ _ _ _⟩, ⟨by (with_reducible repeat (first | apply bkN | apply bkD | apply bkA)); refine blk_far ?_ NB287_295.out _; (with_reducible repeat (first | apply bkN | apply bkD | apply bkA)); refine blk_far ?_ NB287_295.out _; (with_reducible repeat (first | apply bkN | apply bkD | apply bkA)); refine blk_far ?_ NB287_295.out _; (with_reducible repeat (first | apply bkN | apply bkD | apply bkA)); exact BK287.out⟩, ⟨by (with_reducible repeat (first | apply bkN | apply bkD | apply bkA)); refine blk_far ?_ NB288_295.out _; (with_reducible repeat (first | apply bkN | apply bkD | apply bkA)); refine blk_far ?_ NB288_295.out _; (with_reducible repeat (first | apply bkN | apply bkD | apply bkA)); refine blk_far ?_ NB288_295.out _; (with_reducible repeat (first | apply bkN | apply bkD | apply bkA)); exact BK288.out⟩, ⟨by (with_reducible repeat (first | apply bkN | apply bkD | apply bkA)); refine blk_put (cs := #[.int .i64 a0_0, .slice Ao12 y292.length co12, .slice none 0 0]) ?_ 2 _ rfl; (with_reducible repeat (first | apply bkN | apply bkD | apply bkA)); refine blk_put (cs := #[.int .i64 a0_0, .slice none 0 0, .slice none 0 0]) ?_ 1 _ rfl; (with_reducible repeat (first | apply bkN | apply bkD | apply bkA)); refine blk_put (cs := #[.int .i64 0, .slice none 0 0, .slice none 0 0]) ?_ 0 _ rfl; (with_reducible repeat (first | apply bkN | apply bkD | apply bkA)); exact BK295.out⟩, ⟨by repeat (first | (with_reducible first | exact HB.out | apply blA | apply blN | apply blD | refine bS ?_ GE287.out | refine bS ?_ GE288.out | refine bS ?_ GE295.out) | exact HB.out)⟩⟩
   case round =>
    clear H'
    obtain ⟨x16_1, x296002_1, u296002, rfl, HA, HK1, HO_296001, HO_296002, BK287, BK288, BK295, HB⟩ := hrel
    cases gk with
    | zero => exact absurd HA.out (by simp [r5_Copy.l0])
    | succ k1 =>
     have H := HA.out
     clear HA
     simp only [r5_Copy.l0] at H
     by_cases c19 : x16_1 < (l0_2.length : Int)
     · rw [if_pos c19] at H
       have c19b0 : decide (x16_1 < (l0_2.length : Int)) = true := decide_eq_true c19
       clear c19
       by_cases c20 : 0 ≤ x16_1
       · rw [if_pos c20] at H
         have c20b0 : decide (0 ≤ x16_1) = true := decide_eq_true c20
         clear c20
         by_cases c21 : x16_1 < (l0_2.length : Int)
         · rw [if_pos c21] at H
           have c21b0 : decide (x16_1 < (l0_2.length : Int)) = true := decide_eq_true c21
           clear c21
           replace H := Option.bind_eq_some_iff.mp H
           obtain ⟨⟨t298, t299, t302⟩, A220, H⟩ := H
           replace H : (if x296002_1.length < 2513169434916 then (r5_Copy.l0 k1 l0_2 (l0_2.length : Int) (wrap64 (x16_1 + 1)) a0_0 y292 (x296002_1 ++ [(⟨t298, t299, t302⟩ : S25)])) else (none)) = some (r1, r2, r3) := H
           have A22 := aM A220
           clear A220
           by_cases c23 : x296002_1.length < 2513169434916
           · rw [if_pos c23] at H
             have LMc23 := aM c23
             clear c23
             obtain ⟨y305, hy305⟩ : ∃ y_ : List (S25), y_ = (x296002_1 ++ [(⟨t298, t299, t302⟩ : S25)]) := ⟨_, rfl⟩
             replace H : (r5_Copy.l0 k1 l0_2 (l0_2.length : Int) (wrap64 (x16_1 + 1)) a0_0 y292 y305) = some (r1, r2, r3) := by first | (rw [hy305]; with_reducible exact H) | (have H2_ := (Option.bind_some _ _).symm.trans H; rw [hy305]; with_reducible exact H2_) | (have H2_ := (Option.bind_some _ _).symm.trans H; with_reducible exact H2_) | with_reducible exact H | (rw [hy305]; exact H) | exact H
             have Ny305 := aM hy305
             clear hy305
             have H' := aM H
             clear H
             have p296 : 0 ≤ (x16_1 : Int) := of_decide_eq_true (by first | (with_reducible assumption) | assumption)
             have q296 : x16_1 < (l0_2.length : Int) := of_decide_eq_true (by first | (with_reducible assumption) | assumption)
             obtain ⟨ad296, A296_1, c296_1, A296_2, c296_2, e296, hx296_0, hx296_1, hx296_2, hl296_1, hi296_1, hl296_2, hi296_2⟩ := at_T25 HR0_2.out x16_1 p296 q296
             cases e296
             replace hx296_0 := (HB.out.cell (World.block_lt_of_cell? w _ hx296_0)).trans hx296_0
             replace hx296_1 := (HB.out.cell (World.block_lt_of_cell? w _ hx296_1)).trans hx296_1
             replace hx296_2 := (HB.out.cell (World.block_lt_of_cell? w _ hx296_2)).trans hx296_2
             have HR296_1 := aM hi296_1
             have HC296_1 := aM hl296_1
             clear hi296_1 hl296_1
             have HR296_2 := aM hi296_2
             have HC296_2 := aM hl296_2
             clear hi296_2 hl296_2
             replace p296 := eq_true p296
             replace q296 := eq_true q296
             try go_wp2_with (first | ((with_reducible refine gate_dst (N := 5) rfl ?_); refine box_event ?hg (N := 5) ?hd (cs := #[.int .i64 0, .slice none 0 0, .slice none 0 0]) (t := 25) ?hr ?_; (case hd => rfl); (case hg => rfl); (case hr => first | (go_simp; done) | (go_simp; rfl)); intro gb297 hg w24 hbox hb; have n0_ := aM (Kd.R_below (uk_ HO_296001.out) hb); have n1_ := aM (Kd.R_below (Kd.R_elderB (uk_ HO_296002.out) gb297 (Nat.le_of_eq hg.symm)) hb); have n2_ := aM (blk_below (g := gb287) (o := .cells #[.int .i64 a0_0, .slice A0_1 l0_1.length c0_1, .slice (some ad296) l0_2.length c0_2] 25 (0, 0)) (up_ BK287.out) hb); have n3_ := aM (blk_below (g := gb288) (o := .cells #[.int .i64 0, .slice none 0 0, .slice none 0 0] 25 (0, 0)) (up_ BK288.out) hb); have n4_ := aM (blk_below (g := gb295) (o := .cells #[.int .i64 a0_0, .slice Ao12 y292.length co12, u296002] 25 (0, 0)) (up_ BK295.out) hb); have n5_ := aM (below_step (by repeat (first | (with_reducible first | exact HB.out | apply blA | apply blN | apply blD | refine bS ?_ GE287.out | refine bS ?_ GE288.out | refine bS ?_ GE295.out) | exact HB.out)) hb); have n6_ := aM (hbox); have n7_ := aM ((by rw [hg]; exact (below_size (by repeat (first | (with_reducible first | exact HB.out | apply blA | apply blN | apply blD | refine bS ?_ GE287.out | refine bS ?_ GE288.out | refine bS ?_ GE295.out) | exact HB.out))) : w.heap.size ≤ gb297)); have n8_ := aM ((by rw [hg]; exact (below_size (by repeat (first | (with_reducible first | exact HB.out | apply blA | apply blN | apply blD | refine bS ?_ GE287.out | refine bS ?_ GE288.out | refine bS ?_ GE295.out) | exact HB.out))) : w.heap.size ≤ gb297)); have n9_ := aM ((by rw [hg]; exact Nat.ne_of_lt (blk_lt (g := gb287) (o := .cells #[.int .i64 a0_0, .slice A0_1 l0_1.length c0_1, .slice (some ad296) l0_2.length c0_2] 25 (0, 0)) (up_ BK287.out)) : gb287 ≠ gb297)); have n10_ := aM ((by rw [hg]; exact Nat.ne_of_gt (blk_lt (g := gb287) (o := .cells #[.int .i64 a0_0, .slice A0_1 l0_1.length c0_1, .slice (some ad296) l0_2.length c0_2] 25 (0, 0)) (up_ BK287.out)) : gb297 ≠ gb287)); have n11_ := aM ((by rw [hg]; exact Nat.ne_of_lt (blk_lt (g := gb288) (o := .cells #[.int .i64 0, .slice none 0 0, .slice none 0 0] 25 (0, 0)) (up_ BK288.out)) : gb288 ≠ gb297)); have n12_ := aM ((by rw [hg]; exact Nat.ne_of_gt (blk_lt (g := gb288) (o := .cells #[.int .i64 0, .slice none 0 0, .slice none 0 0] 25 (0, 0)) (up_ BK288.out)) : gb297 ≠ gb288)); have n13_ := aM ((by rw [hg]; exact Nat.ne_of_lt (blk_lt (g := gb295) (o := .cells #[.int .i64 a0_0, .slice Ao12 y292.length co12, u296002] 25 (0, 0)) (up_ BK295.out)) : gb295 ≠ gb297)); have n14_ := aM ((by rw [hg]; exact Nat.ne_of_gt (blk_lt (g := gb295) (o := .cells #[.int .i64 a0_0, .slice Ao12 y292.length co12, u296002] 25 (0, 0)) (up_ BK295.out)) : gb297 ≠ gb295)); clear HO_296001; clear HO_296002; clear BK287; clear BK288; clear BK295; clear HB; have HO_296001 := n0_; have HO_296002 := n1_; have BK287 := n2_; have BK288 := n3_; have BK295 := n4_; have HB := n5_; have BK297 := n6_; have GW297 := n7_; have GE297 := n8_; have NB287_297 := n9_; have NB297_287 := n10_; have NB288_297 := n11_; have NB297_288 := n12_; have NB295_297 := n13_; have NB297_295 := n14_; clear n0_ n1_ n2_ n3_ n4_ n5_ n6_ n7_ n8_ n9_ n10_ n11_ n12_ n13_ n14_; clear hb hbox hg; have hnb25 := NB297_287.out; have hnc25 := NB287_297.out; have hnb26 := NB297_288.out; have hnc26 := NB288_297.out; have hnb27 := NB297_295.out; have hnc27 := NB295_297.out; have hcz28_0 : w24.cell? ⟨gb297, 0, none⟩ = some (.int .i64 0) := (blk_cell BK297.out 0).trans rfl; have hcz28_1 : w24.cell? ⟨gb297, 1, none⟩ = some (.slice none 0 0) := (blk_cell BK297.out 1).trans rfl; have hcz28_2 : w24.cell? ⟨gb297, 2, none⟩ = some (.slice none 0 0) := (blk_cell BK297.out 2).trans rfl; have hfz28_0 := bF BK297.out 0; have hfz28_1 := bF BK297.out 1; have hfz28_2 := bF BK297.out 2))
             have n0_ : Aside0 (Kd.R k66 66 (((w24.setCell ⟨gb297, 0, none⟩ (.int .i64 ((rd_T25 l0_2 x16_1).f0))).setCell ⟨gb297, 1, none⟩ (.slice A296_1 ((rd_T25 l0_2 x16_1).f1).length c296_1)).setCell ⟨gb297, 2, none⟩ (.slice A296_2 ((rd_T25 l0_2 x16_1).f2).length c296_2)) w.heap.size (fun _ => True) (.slice Ao12 y292.length co12) y292) := ⟨by (with_reducible repeat (first | apply kA | apply kN | apply kD)); exact Kd.R_mono (Kd.R_far (p := ⟨gb297, 2, none⟩) (Kd.R_far (p := ⟨gb297, 1, none⟩) (Kd.R_far (p := ⟨gb297, 0, none⟩) (Kd.R_types HO_296001.out BK297.out (by decide)) (fun _ hk => hk.2) (.int .i64 ((rd_T25 l0_2 x16_1).f0))) (fun _ hk => hk.2) (.slice A296_1 ((rd_T25 l0_2 x16_1).f1).length c296_1)) (fun _ hk => hk.2) (.slice A296_2 ((rd_T25 l0_2 x16_1).f2).length c296_2)) (fun _ hk => trivial)⟩
             have n1_ : Aside0 (Kd.R k25 25 (((w24.setCell ⟨gb297, 0, none⟩ (.int .i64 ((rd_T25 l0_2 x16_1).f0))).setCell ⟨gb297, 1, none⟩ (.slice A296_1 ((rd_T25 l0_2 x16_1).f1).length c296_1)).setCell ⟨gb297, 2, none⟩ (.slice A296_2 ((rd_T25 l0_2 x16_1).f2).length c296_2)) w.heap.size (fun k_ => some k_ ≠ (.slice Ao12 y292.length co12 : Value).ownBlock ∧ k_ ≠ gb287 ∧ k_ ≠ gb288 ∧ k_ ≠ gb295 ∧ k_ ≠ gb297) u296002 x296002_1) := ⟨by (with_reducible repeat (first | apply kA | apply kN | apply kD)); exact Kd.R_mono (Kd.R_far (p := ⟨gb297, 2, none⟩) (Kd.R_far (p := ⟨gb297, 1, none⟩) (Kd.R_far (p := ⟨gb297, 0, none⟩) (Kd.R_mono HO_296002.out (fun k_ hk => (⟨hk, hk.2⟩ : _ ∧ k_ ≠ gb297))) (fun _ hk => hk.2) (.int .i64 ((rd_T25 l0_2 x16_1).f0))) (fun _ hk => hk.2) (.slice A296_1 ((rd_T25 l0_2 x16_1).f1).length c296_1)) (fun _ hk => hk.2) (.slice A296_2 ((rd_T25 l0_2 x16_1).f2).length c296_2)) (fun _ hk => ⟨hk.1.1.1, ⟨hk.1.1.2.1, ⟨hk.1.1.2.2.1, ⟨hk.1.1.2.2.2, hk.1.2⟩⟩⟩⟩)⟩
             have n2_ : Aside0 ((((w24.setCell ⟨gb297, 0, none⟩ (.int .i64 ((rd_T25 l0_2 x16_1).f0))).setCell ⟨gb297, 1, none⟩ (.slice A296_1 ((rd_T25 l0_2 x16_1).f1).length c296_1)).setCell ⟨gb297, 2, none⟩ (.slice A296_2 ((rd_T25 l0_2 x16_1).f2).length c296_2)).heap[gb287]? = some (.cells #[.int .i64 a0_0, .slice A0_1 l0_1.length c0_1, .slice (some ad296) l0_2.length c0_2] 25 (0, 0))) := ⟨by (with_reducible repeat (first | apply bkN | apply bkD | apply bkA)); refine blk_far ?_ NB287_297.out _; (with_reducible repeat (first | apply bkN | apply bkD | apply bkA)); refine blk_far ?_ NB287_297.out _; (with_reducible repeat (first | apply bkN | apply bkD | apply bkA)); refine blk_far ?_ NB287_297.out _; (with_reducible repeat (first | apply bkN | apply bkD | apply bkA)); exact BK287.out⟩
             have n3_ : Aside0 ((((w24.setCell ⟨gb297, 0, none⟩ (.int .i64 ((rd_T25 l0_2 x16_1).f0))).setCell ⟨gb297, 1, none⟩ (.slice A296_1 ((rd_T25 l0_2 x16_1).f1).length c296_1)).setCell ⟨gb297, 2, none⟩ (.slice A296_2 ((rd_T25 l0_2 x16_1).f2).length c296_2)).heap[gb288]? = some (.cells #[.int .i64 0, .slice none 0 0, .slice none 0 0] 25 (0, 0))) := ⟨by (with_reducible repeat (first | apply bkN | apply bkD | apply bkA)); refine blk_far ?_ NB288_297.out _; (with_reducible repeat (first | apply bkN | apply bkD | apply bkA)); refine blk_far ?_ NB288_297.out _; (with_reducible repeat (first | apply bkN | apply bkD | apply bkA)); refine blk_far ?_ NB288_297.out _; (with_reducible repeat (first | apply bkN | apply bkD | apply bkA)); exact BK288.out⟩
             have n4_ : Aside0 ((((w24.setCell ⟨gb297, 0, none⟩ (.int .i64 ((rd_T25 l0_2 x16_1).f0))).setCell ⟨gb297, 1, none⟩ (.slice A296_1 ((rd_T25 l0_2 x16_1).f1).length c296_1)).setCell ⟨gb297, 2, none⟩ (.slice A296_2 ((rd_T25 l0_2 x16_1).f2).length c296_2)).heap[gb295]? = some (.cells #[.int .i64 a0_0, .slice Ao12 y292.length co12, u296002] 25 (0, 0))) := ⟨by (with_reducible repeat (first | apply bkN | apply bkD | apply bkA)); refine blk_far ?_ NB295_297.out _; (with_reducible repeat (first | apply bkN | apply bkD | apply bkA)); refine blk_far ?_ NB295_297.out _; (with_reducible repeat (first | apply bkN | apply bkD | apply bkA)); refine blk_far ?_ NB295_297.out _; (with_reducible repeat (first | apply bkN | apply bkD | apply bkA)); exact BK295.out⟩
             have n5_ : Aside0 ((((w24.setCell ⟨gb297, 0, none⟩ (.int .i64 ((rd_T25 l0_2 x16_1).f0))).setCell ⟨gb297, 1, none⟩ (.slice A296_1 ((rd_T25 l0_2 x16_1).f1).length c296_1)).setCell ⟨gb297, 2, none⟩ (.slice A296_2 ((rd_T25 l0_2 x16_1).f2).length c296_2)).heap[gb297]? = some (.cells #[.int .i64 ((rd_T25 l0_2 x16_1).f0), .slice A296_1 ((rd_T25 l0_2 x16_1).f1).length c296_1, .slice A296_2 ((rd_T25 l0_2 x16_1).f2).length c296_2] 25 (0, 0))) := ⟨by (with_reducible repeat (first | apply bkN | apply bkD | apply bkA)); refine blk_put (cs := #[.int .i64 ((rd_T25 l0_2 x16_1).f0), .slice A296_1 ((rd_T25 l0_2 x16_1).f1).length c296_1, .slice none 0 0]) ?_ 2 _ rfl; (with_reducible repeat (first | apply bkN | apply bkD | apply bkA)); refine blk_put (cs := #[.int .i64 ((rd_T25 l0_2 x16_1).f0), .slice none 0 0, .slice none 0 0]) ?_ 1 _ rfl; (with_reducible repeat (first | apply bkN | apply bkD | apply bkA)); refine blk_put (cs := #[.int .i64 0, .slice none 0 0, .slice none 0 0]) ?_ 0 _ rfl; (with_reducible repeat (first | apply bkN | apply bkD | apply bkA)); exact BK297.out⟩
             have n6_ : Aside0 (Below w.heap.size w (((w24.setCell ⟨gb297, 0, none⟩ (.int .i64 ((rd_T25 l0_2 x16_1).f0))).setCell ⟨gb297, 1, none⟩ (.slice A296_1 ((rd_T25 l0_2 x16_1).f1).length c296_1)).setCell ⟨gb297, 2, none⟩ (.slice A296_2 ((rd_T25 l0_2 x16_1).f2).length c296_2))) := ⟨by repeat (first | (with_reducible first | exact HB.out | apply blA | apply blN | apply blD | refine bS ?_ GE287.out | refine bS ?_ GE288.out | refine bS ?_ GE295.out | refine bS ?_ GE297.out) | exact HB.out)⟩
             (try clear HO_296001)
             (try clear HO_296002)
             (try clear BK287)
             (try clear BK288)
             (try clear BK295)
             (try clear BK297)
             (try clear HB)
             generalize (((w24.setCell ⟨gb297, 0, none⟩ (.int .i64 ((rd_T25 l0_2 x16_1).f0))).setCell ⟨gb297, 1, none⟩ (.slice A296_1 ((rd_T25 l0_2 x16_1).f1).length c296_1)).setCell ⟨gb297, 2, none⟩ (.slice A296_2 ((rd_T25 l0_2 x16_1).f2).length c296_2)) = w29 at n0_ n1_ n2_ n3_ n4_ n5_ n6_ ⊢
             have HO_296001 := n0_
             have HO_296002 := n1_
             have BK287 := n2_
             have BK288 := n3_
             have BK295 := n4_
             have BK297 := n5_
             have HB := n6_
             clear n0_ n1_ n2_ n3_ n4_ n5_ n6_
             have n0_ := aM (Kd.R_drew HO_296001.out)
             have n1_ := aM (Kd.R_drew HO_296002.out)
             have n2_ := aM (blk_drew BK287.out)
             have n3_ := aM (blk_drew BK288.out)
             have n4_ := aM (blk_drew BK295.out)
             have n5_ := aM (blk_drew BK297.out)
             have n6_ := aM (below_drew1 HB.out)
             clear HO_296001
             clear HO_296002
             clear BK287
             clear BK288
             clear BK295
             clear BK297
             clear HB
             have HO_296001 := n0_
             have HO_296002 := n1_
             have BK287 := n2_
             have BK288 := n3_
             have BK295 := n4_
             have BK297 := n5_
             have HB := n6_
             clear n0_ n1_ n2_ n3_ n4_ n5_ n6_
             refine start_ (n := 8) (S := fun w' => w'.cell? ⟨gb295, 0, none⟩ = some (.int .i64 a0_0) ∧ w'.cell? ⟨gb295, 1, none⟩ = some (.slice Ao12 y292.length co12) ∧ w'.cell? ⟨gb295, 2, none⟩ = some (u296002) ∧ w'.cell? ⟨gb297, 0, none⟩ = some (.int .i64 ((rd_T25 l0_2 x16_1).f0)) ∧ w'.cell? ⟨gb297, 1, none⟩ = some (.slice A296_1 ((rd_T25 l0_2 x16_1).f1).length c296_1) ∧ w'.cell? ⟨gb297, 2, none⟩ = some (.slice A296_2 ((rd_T25 l0_2 x16_1).f2).length c296_2)) (ds := [7]) (tf 0 8) (by kernel_rfl) rfl rfl ⟨(blk_cell BK295.out 0).trans rfl, (blk_cell BK295.out 1).trans rfl, (blk_cell BK295.out 2).trans rfl, (blk_cell BK297.out 0).trans rfl, (blk_cell BK297.out 1).trans rfl, (blk_cell BK297.out 2).trans rfl⟩ (fun hHeld => ?_); refine with_tabW r5_Copy.tab5 r5_Copy.bits5 (fun HT_ HW_ => ?_)
             generalize w29.drew = w30 at HO_296001 HO_296002 BK287 BK288 BK295 BK297 HB hHeld ⊢
             refine pure_ (i := 0) (N := some 20) (v := ?_) (a' := ?_) (tf 1 7) rfl rfl (any_of HT_.out (by kernel_rfl)) (fun _ _ _ h => h) (Or.inl ⟨by rfl, ?_⟩) ?_ ?_
             rotate_left
             · intro w'
               go_simp
               with_reducible rfl
             rotate_left
             · simp only [Act.put, sT, sZ, sS, i64_w, i32_w]
               rfl
             refine take_ (i := 1) (N := some 21) (v := ?_) (a' := ?_) (tf 2 6) rfl rfl (take_ofW HT_.out HW_.out (by kernel_rfl)) (fun _ _ _ h => h) (Or.inl ⟨by rfl, ?_⟩) hHeld ?_ ?_
             rotate_left
             · rintro w' ⟨s0, s1, s2, s3, s4, s5⟩
               go_simp
               with_reducible rfl
             rotate_left
             · simp only [Act.put, sT, sZ, sS, i64_w, i32_w]
               rfl
             refine take_ (i := 2) (N := some 22) (v := ?_) (a' := ?_) (tf 3 5) rfl rfl (take_ofW HT_.out HW_.out (by kernel_rfl)) (fun _ _ _ h => h) (Or.inl ⟨by rfl, ?_⟩) hHeld ?_ ?_
             rotate_left
             · rintro w' ⟨s0, s1, s2, s3, s4, s5⟩
               go_simp
               with_reducible rfl
             rotate_left
             · simp only [Act.put, sT, sZ, sS, i64_w, i32_w]
               rfl
             refine one_ (i := 3) (N := some 23) (tf 4 4) rfl rfl (one_of HT_.out (by kernel_rfl)) (by decide) (fun K hK => ?_)
             refine goes_ Try.func15 (by kernel_rfl) rfl #[.agg #[.int .i64 ((rd_T25 l0_2 x16_1).f0), .slice A296_1 ((rd_T25 l0_2 x16_1).f1).length c296_1, .slice A296_2 ((rd_T25 l0_2 x16_1).f2).length c296_2]] (by rfl) rfl rfl (by (try simp only [List.map_toArray, List.map_cons, List.map_nil]); first | done | rfl | (simp only [List.length_drop, List.length_take]; rfl)) ?_
             with_reducible refine (ih k1 (by have := HK1.out; omega) ((rd_T25 l0_2 x16_1).f0) _ _ ((rd_T25 l0_2 x16_1).f1) _ _ ((rd_T25 l0_2 x16_1).f2) t298 t299 t302 _ ?side1 ?side2 ?side3 ?side4 A22.out).mono ?_
             (case side1 => repeat (first | exact (Kd.C_below HR296_1.out HB.out) | (with_reducible refine Kd.C_alloc ?_ _) | (with_reducible refine Kd.C_drewN ?_ _) | (with_reducible refine Kd.C_drew ?_)))
             (case side2 => exact HC296_1.out)
             (case side3 => repeat (first | exact (Kd.C_below HR296_2.out HB.out) | (with_reducible refine Kd.C_alloc ?_ _) | (with_reducible refine Kd.C_drewN ?_ _) | (with_reducible refine Kd.C_drew ?_)))
             (case side4 => exact HC296_2.out)
             rintro e w31 ⟨v300, v303, rfl, ho0, ho1, hb⟩
             refine ⟨_, rfl, ?_⟩
             have n0_ := aM (Kd.R_elder' (uk_ HO_296001.out) (Kd.R_base ho0) hb)
             have n1_ := aM (Kd.R_mono (Kd.R_told (Kd.R_told (Kd.R_old (uk_ HO_296002.out) hb) (Kd.R_base ho0)) (Kd.R_base ho1)) (fun _ h_ => h_.1))
             have n2_ := aM (Kd.R_lower (Kd.R_new' ho0 (Kd.R_lt (uk_ HO_296001.out))) (below_size (by repeat (first | (with_reducible first | exact HB.out | apply blA | apply blN | apply blD | refine bS ?_ GE287.out | refine bS ?_ GE288.out | refine bS ?_ GE295.out | refine bS ?_ GE297.out) | exact HB.out))))
             have n3_ := aM (Kd.R_lower (Kd.R_newB (Kd.R_newB (Kd.R_newB (Kd.R_newB (Kd.R_new' (Kd.R_new' ho1 (Kd.R_lt (uk_ HO_296001.out))) (Kd.R_lt (uk_ HO_296002.out))) (g := gb287) (o := .cells #[.int .i64 a0_0, .slice A0_1 l0_1.length c0_1, .slice (some ad296) l0_2.length c0_2] 25 (0, 0)) (up_ BK287.out)) (g := gb288) (o := .cells #[.int .i64 0, .slice none 0 0, .slice none 0 0] 25 (0, 0)) (up_ BK288.out)) (g := gb295) (o := .cells #[.int .i64 a0_0, .slice Ao12 y292.length co12, u296002] 25 (0, 0)) (up_ BK295.out)) (g := gb297) (o := .cells #[.int .i64 ((rd_T25 l0_2 x16_1).f0), .slice A296_1 ((rd_T25 l0_2 x16_1).f1).length c296_1, .slice A296_2 ((rd_T25 l0_2 x16_1).f2).length c296_2] 25 (0, 0)) (up_ BK297.out)) (below_size (by repeat (first | (with_reducible first | exact HB.out | apply blA | apply blN | apply blD | refine bS ?_ GE287.out | refine bS ?_ GE288.out | refine bS ?_ GE295.out | refine bS ?_ GE297.out) | exact HB.out))))
             have n4_ := aM (blk_below (g := gb287) (o := .cells #[.int .i64 a0_0, .slice A0_1 l0_1.length c0_1, .slice (some ad296) l0_2.length c0_2] 25 (0, 0)) (up_ BK287.out) hb)
             have n5_ := aM (blk_below (g := gb288) (o := .cells #[.int .i64 0, .slice none 0 0, .slice none 0 0] 25 (0, 0)) (up_ BK288.out) hb)
             have n6_ := aM (blk_below (g := gb295) (o := .cells #[.int .i64 a0_0, .slice Ao12 y292.length co12, u296002] 25 (0, 0)) (up_ BK295.out) hb)
             have n7_ := aM (blk_below (g := gb297) (o := .cells #[.int .i64 ((rd_T25 l0_2 x16_1).f0), .slice A296_1 ((rd_T25 l0_2 x16_1).f1).length c296_1, .slice A296_2 ((rd_T25 l0_2 x16_1).f2).length c296_2] 25 (0, 0)) (up_ BK297.out) hb)
             have n8_ := aM (below_step (by repeat (first | (with_reducible first | exact HB.out | apply blA | apply blN | apply blD | refine bS ?_ GE287.out | refine bS ?_ GE288.out | refine bS ?_ GE295.out | refine bS ?_ GE297.out) | exact HB.out)) hb)
             clear HO_296001
             clear HO_296002
             clear BK287
             clear BK288
             clear BK295
             clear BK297
             clear HB
             have HO_296001 := n0_
             have HO_296002 := n1_
             have HO301 := n2_
             have HO304 := n3_
             have BK287 := n4_
             have BK288 := n5_
             have BK295 := n6_
             have BK297 := n7_
             have HB := n8_
             clear n0_ n1_ n2_ n3_ n4_ n5_ n6_ n7_ n8_
             (try clear hb)
             (try clear hb2)
             (try clear hk)
             (try clear hi)
             (try clear ho0)
             (try clear ho1)
             obtain ⟨Ao33, co33, eo33⟩ := Kd.R_slice HO301.out
             (first | subst eo33 | (injection eo33 with f1_ f2_ f3_; have f4_ := f1_.symm; have f5_ := f3_.symm; clear f1_ f2_ f3_; subst f4_; subst f5_))
             obtain ⟨Ao34, co34, eo34⟩ := Kd.R_slice HO304.out
             (first | subst eo34 | (injection eo34 with f1_ f2_ f3_; have f4_ := f1_.symm; have f5_ := f3_.symm; clear f1_ f2_ f3_; subst f4_; subst f5_))
             refine hK.out _ _ ⟨(blk_cell BK295.out 0).trans rfl, (blk_cell BK295.out 1).trans rfl, (blk_cell BK295.out 2).trans rfl, (blk_cell BK297.out 0).trans rfl, (blk_cell BK297.out 1).trans rfl, (blk_cell BK297.out 2).trans rfl⟩ (fun hHeld => ?_)
             clear hK K
             refine norm_ (a' := ?_) ?_ ?_
             rotate_left
             · show Act.put _ (some 23) _ = _
               simp only [Act.put, sT, sZ, sS, i64_w, i32_w]
               rfl
             refine one_ (i := 4) (N := some 24) (tf 5 3) rfl rfl (one_of HT_.out (by kernel_rfl)) (by decide) (fun K hK => ?_)
             refine value_ (w1 := ?_) (v := ?_) (by rfl) rfl ?_ ?_
             rotate_left 2
             · go_simp
               constructor
               · rfl
               · rfl
             refine hK.out _ _ ⟨(blk_cell (blk_alloc BK295.out _) 0).trans rfl, (blk_cell (blk_alloc BK295.out _) 1).trans rfl, (blk_cell (blk_alloc BK295.out _) 2).trans rfl, (blk_cell (blk_alloc BK297.out _) 0).trans rfl, (blk_cell (blk_alloc BK297.out _) 1).trans rfl, (blk_cell (blk_alloc BK297.out _) 2).trans rfl⟩ (fun hHeld => ?_)
             clear hK K
             refine norm_ (a' := ?_) ?_ ?_
             rotate_left
             · show Act.put _ (some 24) _ = _
               simp only [Act.put, sT, sZ, sS, i64_w, i32_w]
               rfl
             refine one_ (i := 5) (N := some 25) (tf 6 2) rfl rfl (one_of HT_.out (by kernel_rfl)) (by decide) (fun K hK => ?_)
             refine Kd.R_append_step k25 (w0 := w) w.heap.size (by rfl) (.tmp 21) (.tmp 24) 23 25 (.agg #[(.int .i64 0), (.slice none 0 0), (.slice none 0 0)]) 56 rfl Try.underlying23 info25 rfl (by decide) (by omega) u296002 x296002_1 (⟨t298, t299, t302⟩ : S25) [.int .i64 t298, .slice Ao33 t299.length co33, .slice Ao34 t302.length co34] (fun k_ => some k_ ≠ (.slice Ao12 y292.length co12 : Value).ownBlock ∧ k_ ≠ gb287 ∧ k_ ≠ gb288 ∧ k_ ≠ gb295 ∧ k_ ≠ gb297) (fun k_ => ((fun k_ => some k_ ≠ (.slice Ao12 y292.length co12 : Value).ownBlock ∧ k_ ≠ gb287 ∧ k_ ≠ gb288 ∧ k_ ≠ gb295 ∧ k_ ≠ gb297)) k_ ∧ some k_ ≠ (u296002 : Value).ownBlock) rfl rfl ?aP (fun _ hk => hk) ?aF ?aO ?aB ?aS ?aL ?_
             (case aP => exact k25_mkM _ _ _ (⟨t298, t299, t302⟩ : S25) (Kd.R_mono (Kd.R_types (Kd.R_types (Kd.R_types (Kd.R_types (Kd.R_apart' (HO301.out) (Kd.R_typed HO_296002.out) (by decide)) BK287.out (by decide)) BK288.out (by decide)) BK295.out (by decide)) BK297.out (by decide)) (fun k_ hk => ⟨⟨hk.1.1.1.1.1.2, ⟨hk.1.1.1.2, ⟨hk.1.1.2, ⟨hk.1.2, hk.2⟩⟩⟩⟩, hk.1.1.1.1.2⟩)) (Kd.R_mono (HO304.out) (fun k_ hk => ⟨⟨hk.1.1.1.1.1.2, ⟨hk.1.1.1.2, ⟨hk.1.1.2, ⟨hk.1.2, hk.2⟩⟩⟩⟩, hk.1.1.1.1.2⟩)))
             (case aB => exact (by repeat (first | (with_reducible first | exact HB.out | apply blA | apply blN | apply blD | refine bS ?_ GE287.out | refine bS ?_ GE288.out | refine bS ?_ GE295.out | refine bS ?_ GE297.out) | exact HB.out)))
             (case aF => exact (fun k_ hk => ⟨Kd.fresh' (Kd.R_lt (uk_ HO_296001.out)) k_ hk, Kd.freshB (g := gb287) (o := .cells #[.int .i64 a0_0, .slice A0_1 l0_1.length c0_1, .slice (some ad296) l0_2.length c0_2] 25 (0, 0)) (up_ BK287.out) k_ hk, Kd.freshB (g := gb288) (o := .cells #[.int .i64 0, .slice none 0 0, .slice none 0 0] 25 (0, 0)) (up_ BK288.out) k_ hk, Kd.freshB (g := gb295) (o := .cells #[.int .i64 a0_0, .slice Ao12 y292.length co12, u296002] 25 (0, 0)) (up_ BK295.out) k_ hk, Kd.freshB (g := gb297) (o := .cells #[.int .i64 ((rd_T25 l0_2 x16_1).f0), .slice A296_1 ((rd_T25 l0_2 x16_1).f1).length c296_1, .slice A296_2 ((rd_T25 l0_2 x16_1).f2).length c296_2] 25 (0, 0)) (up_ BK297.out) k_ hk⟩))
             (case aO => exact (by (with_reducible repeat (first | apply kA | apply kN | apply kD)); exact Kd.R_mono HO_296002.out (fun _ hk => ⟨hk.1.1.1, ⟨hk.1.1.2.1, ⟨hk.1.1.2.2.1, ⟨hk.1.1.2.2.2.1, hk.1.1.2.2.2.2⟩⟩⟩⟩)))
             (case aS => exact (below_size (by repeat (first | (with_reducible first | exact HB.out | apply blA | apply blN | apply blD | refine bS ?_ GE287.out | refine bS ?_ GE288.out | refine bS ?_ GE295.out | refine bS ?_ GE297.out) | exact HB.out))))
             (case aL => have := LMc23.out; omega)
             intro v306 w32 ho hb hg hat
             rw [← Ny305.out] at ho
             have n0_ := aM (Kd.R_over' (uk_ HO_296001.out) (Kd.R_typed (uk_ HO_296002.out)) (by decide) hg)
             have n1_ := aM (blk_grown (g := gb287) (o := .cells #[.int .i64 a0_0, .slice A0_1 l0_1.length c0_1, .slice (some ad296) l0_2.length c0_2] 25 (0, 0)) (up_ BK287.out) hg (Kd.R_away HO_296002.out (fun _ hk => hk.1.1.2.1)))
             have n2_ := aM (blk_grown (g := gb288) (o := .cells #[.int .i64 0, .slice none 0 0, .slice none 0 0] 25 (0, 0)) (up_ BK288.out) hg (Kd.R_away HO_296002.out (fun _ hk => hk.1.1.2.2.1)))
             have n3_ := aM (blk_grown (g := gb295) (o := .cells #[.int .i64 a0_0, .slice Ao12 y292.length co12, u296002] 25 (0, 0)) (up_ BK295.out) hg (Kd.R_away HO_296002.out (fun _ hk => hk.1.1.2.2.2.1)))
             have n4_ := aM (blk_grown (g := gb297) (o := .cells #[.int .i64 ((rd_T25 l0_2 x16_1).f0), .slice A296_1 ((rd_T25 l0_2 x16_1).f1).length c296_1, .slice A296_2 ((rd_T25 l0_2 x16_1).f2).length c296_2] 25 (0, 0)) (up_ BK297.out) hg (Kd.R_away HO_296002.out (fun _ hk => hk.1.1.2.2.2.2)))
             have n5_ := aM (hb)
             have n6_ := aM (ho)
             clear HO_296001
             clear BK287
             clear BK288
             clear BK295
             clear BK297
             clear HB
             clear HO_296002
             clear HO301
             clear HO304
             have HO_296001 := n0_
             have BK287 := n1_
             have BK288 := n2_
             have BK295 := n3_
             have BK297 := n4_
             have HB := n5_
             have HO307 := n6_
             clear n0_ n1_ n2_ n3_ n4_ n5_ n6_
             clear ho hb hg hat
             obtain ⟨Ao35, co35, eo35⟩ := Kd.R_slice HO307.out
             (first | subst eo35 | (injection eo35 with f1_ f2_ f3_; have f4_ := f1_.symm; have f5_ := f3_.symm; clear f1_ f2_ f3_; subst f4_; subst f5_))
             refine hK.out _ _ ⟨(blk_cell BK295.out 0).trans rfl, (blk_cell BK295.out 1).trans rfl, (blk_cell BK295.out 2).trans rfl, (blk_cell BK297.out 0).trans rfl, (blk_cell BK297.out 1).trans rfl, (blk_cell BK297.out 2).trans rfl⟩ (fun hHeld => ?_)
             clear hK K
             refine norm_ (a' := ?_) ?_ ?_
             rotate_left
             · show Act.put _ (some 25) _ = _
               simp only [Act.put, sT, sZ, sS, i64_w, i32_w]
               rfl
             refine pure_ (i := 6) (N := some 26) (v := ?_) (a' := ?_) (tf 7 1) rfl rfl (any_of HT_.out (by kernel_rfl)) (fun _ _ _ h => h) (Or.inl ⟨by rfl, ?_⟩) ?_ ?_
             rotate_left
             · intro w'
               go_simp
               with_reducible rfl
             rotate_left
             · simp only [Act.put, sT, sZ, sS, i64_w, i32_w]
               rfl
             refine last_ (i := 7) (N := none) (tf 8 0) rfl rfl (one_of HT_.out (by kernel_rfl)) (by decide) (fun K hK => ?_)
             have hs36 : w32.cell? ⟨gb295, 2, none⟩ = some (u296002) := (blk_cell BK295.out 2).trans rfl
             have hfs36 := bF BK295.out 2
             have hns36_0 := NB287_295.out
             have hns36_1 := NB288_295.out
             have hns36_3 := NB297_295.out
             have hms36_0 := NB295_287.out
             have hms36_1 := NB295_288.out
             have hms36_3 := NB295_297.out
             refine skip_ (w1 := ?_) (by rfl) rfl ?_ ?_
             rotate_left
             · go_simp
               rfl
             refine hK.out _ _ ?_
             clear hK K
             refine done_ (done_of HT_.out (by kernel_rfl)) ?_
             try go_wp2
             go_roundg k1
             case measure => have := HK1.out; omega
             case rel => exact ⟨(wrap64 (x16_1 + 1)), (y305), (.slice Ao35 y305.length co35), (by first | rfl | (simp; done) | (simp [*]; done)), H', ⟨by have := HK1.out; omega⟩, ⟨by (with_reducible repeat (first | apply kA | apply kN | apply kD)); exact Kd.R_mono (Kd.R_far (p := ⟨gb295, 2, none⟩) (Kd.R_types HO_296001.out BK295.out (by decide)) (fun _ hk => hk.2) (.slice Ao35 y305.length co35)) (fun _ hk => trivial)⟩, ⟨by (with_reducible repeat (first | apply kA | apply kN | apply kD)); exact Kd.R_mono (Kd.R_far (p := ⟨gb295, 2, none⟩) (Kd.R_mono HO307.out (fun k_ hk => (⟨hk, hk.2.2.2.1⟩ : _ ∧ k_ ≠ gb295))) (fun _ hk => hk.2) (.slice Ao35 y305.length co35)) (fun _ hk => ⟨hk.1.1, ⟨hk.1.2.1, ⟨hk.1.2.2.1, hk.1.2.2.2.1⟩⟩⟩)⟩, ⟨by (with_reducible repeat (first | apply bkN | apply bkD | apply bkA)); refine blk_far ?_ NB287_295.out _; (with_reducible repeat (first | apply bkN | apply bkD | apply bkA)); exact BK287.out⟩, ⟨by (with_reducible repeat (first | apply bkN | apply bkD | apply bkA)); refine blk_far ?_ NB288_295.out _; (with_reducible repeat (first | apply bkN | apply bkD | apply bkA)); exact BK288.out⟩, ⟨by (with_reducible repeat (first | apply bkN | apply bkD | apply bkA)); refine blk_put (cs := #[.int .i64 a0_0, .slice Ao12 y292.length co12, u296002]) ?_ 2 _ rfl; (with_reducible repeat (first | apply bkN | apply bkD | apply bkA)); exact BK295.out⟩, ⟨by repeat (first | (with_reducible first | exact HB.out | apply blA | apply blN | apply blD | refine bS ?_ GE287.out | refine bS ?_ GE288.out | refine bS ?_ GE295.out | refine bS ?_ GE297.out) | exact HB.out)⟩⟩
           · rw [if_neg c23] at H
             exact absurd H (by simp)
         · rw [if_neg c21] at H
           exact absurd H (by simp)
       · rw [if_neg c20] at H
         exact absurd H (by simp)
     · rw [if_neg c19] at H
       have c19b0 : decide (x16_1 < (l0_2.length : Int)) = false := decide_eq_false c19
       clear c19
       simp only [Option.some.injEq, Prod.mk.injEq] at H
       obtain ⟨rfl, rfl, rfl⟩ := H
       have hnb37 := NB295_287.out
       have hnc37 := NB287_295.out
       have hnb38 := NB295_288.out
       have hnc38 := NB288_295.out
       have hcz39_0 : wr.cell? ⟨gb295, 0, none⟩ = some (.int .i64 a0_0) := (blk_cell BK295.out 0).trans rfl
       have hcz39_1 : wr.cell? ⟨gb295, 1, none⟩ = some (.slice Ao12 y292.length co12) := (blk_cell BK295.out 1).trans rfl
       have hcz39_2 : wr.cell? ⟨gb295, 2, none⟩ = some (u296002) := (blk_cell BK295.out 2).trans rfl
       have hfz39_0 := bF BK295.out 0
       have hfz39_1 := bF BK295.out 1
       have hfz39_2 := bF BK295.out 2
       have hnb40 := NB288_287.out
       have hnc40 := NB287_288.out
       have hcz41_0 : wr.cell? ⟨gb288, 0, none⟩ = some (.int .i64 0) := (blk_cell BK288.out 0).trans rfl
       have hcz41_1 : wr.cell? ⟨gb288, 1, none⟩ = some (.slice none 0 0) := (blk_cell BK288.out 1).trans rfl
       have hcz41_2 : wr.cell? ⟨gb288, 2, none⟩ = some (.slice none 0 0) := (blk_cell BK288.out 2).trans rfl
       have hfz41_0 := bF BK288.out 0
       have hfz41_1 := bF BK288.out 1
       have hfz41_2 := bF BK288.out 2
       obtain ⟨Ao42, co42, eo42⟩ := Kd.R_slice HO_296002.out
       subst eo42
       go_wp2
       refine bodyPost_ret (results_cell_row rfl _ _ gb288 25 #[.int .i64 a0_0, .slice Ao12 y292.length co12, .slice Ao42 x296002_1.length co42] (0, 0) _ rfl (by (with_reducible repeat (first | apply bkN | apply bkD | apply bkA)); refine blk_put (cs := #[.int .i64 a0_0, .slice Ao12 y292.length co12, .slice none 0 0]) ?_ 2 _ rfl; (with_reducible repeat (first | apply bkN | apply bkD | apply bkA)); refine blk_put (cs := #[.int .i64 a0_0, .slice none 0 0, .slice none 0 0]) ?_ 1 _ rfl; (with_reducible repeat (first | apply bkN | apply bkD | apply bkA)); refine blk_put (cs := #[.int .i64 0, .slice none 0 0, .slice none 0 0]) ?_ 0 _ rfl; (with_reducible repeat (first | apply bkN | apply bkD | apply bkA)); exact BK288.out) Try.underlying25 rfl (by kernel_rfl)) rfl ?_
       exact ⟨_, _, by first | rfl | (simp [errW_none, errW_some] <;> rfl) | (simp [*, errW_none, errW_some] <;> rfl), by (with_reducible repeat (first | apply kA | apply kN | apply kD)); exact Kd.R_mono (Kd.R_far (p := ⟨gb288, 2, none⟩) (Kd.R_far (p := ⟨gb288, 1, none⟩) (Kd.R_far (p := ⟨gb288, 0, none⟩) (Kd.R_types HO_296001.out BK288.out (by decide)) (fun _ hk => hk.2) (.int .i64 a0_0)) (fun _ hk => hk.2) (.slice Ao12 y292.length co12)) (fun _ hk => hk.2) (.slice Ao42 x296002_1.length co42)) (fun _ hk => trivial), by (with_reducible repeat (first | apply kA | apply kN | apply kD)); exact Kd.R_mono (Kd.R_far (p := ⟨gb288, 2, none⟩) (Kd.R_far (p := ⟨gb288, 1, none⟩) (Kd.R_far (p := ⟨gb288, 0, none⟩) (Kd.R_mono HO_296002.out (fun k_ hk => (⟨hk, hk.2.2.1⟩ : _ ∧ k_ ≠ gb288))) (fun _ hk => hk.2) (.int .i64 a0_0)) (fun _ hk => hk.2) (.slice Ao12 y292.length co12)) (fun _ hk => hk.2) (.slice Ao42 x296002_1.length co42)) (fun _ hk => hk.1.1), by repeat (first | (with_reducible first | exact HB.out | apply blA | apply blN | apply blD | refine bS ?_ GE287.out | refine bS ?_ GE288.out | refine bS ?_ GE295.out) | exact HB.out)⟩
 · rw [if_neg c2] at H
   exact absurd H (by simp)
end Go.Proofs.Ytlkjfjlmjgkheaa.H
