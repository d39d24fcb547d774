import Derived.Test.YtlkjfjlmjgkheaaHx0
namespace Go.Proofs.Ytlkjfjlmjgkheaa.H
open Go.RowKit Go.Proofs.YtlkjfjlmjgkheaaW.PrintWords Go.Proofs.YtlkjfjlmjgkheaaW.PrintLast Go.Proofs.YtlkjfjlmjgkheaaW.PrintMore
attribute [local go_sem] max2_int min2_int max_two min_two max_three min_three max_four min_four
set_option linter.unusedVariables false
set_option linter.unusedSimpArgs false
mutual
def r5_Copy.l0 : Nat → List (S25) → Int → Int → Int → List (S66) → List (S25) → Option (Int × (List (S66)) × (List (S25)))
 | 0, _, _, _, _, _, _ => none
 | k + 1, x14, x15, x16, x219000, x219001, x219002 => if x16 < x15 then (if 0 ≤ x16 then (if x16 < (x14.length : Int) then ((r5_Copy.f k ((rd_T25 x14 x16).f0) ((rd_T25 x14 x16).f1) ((rd_T25 x14 x16).f2)).bind fun bt221 => (if x219002.length < 2513169434916 then (r5_Copy.l0 k x14 x15 (wrap64 (x16 + 1)) x219000 x219001 (x219002 ++ [(⟨bt221.1, bt221.2.1, bt221.2.2⟩ : S25)])) else (none))) else (none)) else (none)) else (some (x219000, x219001, x219002))
def r5_Copy.f : Nat → Int → List (S66) → List (S25) → Option (Int × (List (S66)) × (List (S25)))
 | 0, _, _, _ => none
 | k + 1, a0_0, l0_1, l0_2 => (some (([] : List (S66)) : List (S66))).bind fun y212 => (if y212.length + l0_1.length < 17592186044416 then (r5_Copy.l0 k l0_2 (l0_2.length : Int) 0 a0_0 (y212 ++ l0_1) ([] : List (S25))) else (none))
end
def r5_Copy.T1 : Bool × List (List Nat × List Nat) := (true, [([], []), ([0], [0]), ([], []), ([], []), ([3], [3]), ([2, 4], [2, 4]), ([1, 5], [1, 5]), ([], []), ([7, 6, 5, 0, 1, 2, 3, 4, 5, 6, 7], [6, 7])])
def r5_Copy.B1 : List Nat := [0, 1, 0, 0, 8, 28, 63, 0, 255]
theorem r5_Copy.tab1 : rtab .any (opsOf Try.f15 1) = r5_Copy.T1 := by kernel_rfl
theorem r5_Copy.bits1 : waitsOk r5_Copy.T1.2 r5_Copy.B1 = true := by kernel_rfl
def r5_Copy.T5 : Bool × List (List Nat × List Nat) := (true, [([], []), ([0], [0]), ([], []), ([2], [2]), ([3], [3]), ([1, 4, 3], [1, 4]), ([0, 1, 2, 3, 4, 5], []), ([6, 5, 5, 0, 1, 2, 3, 4, 5], [5, 6])])
def r5_Copy.B5 : List Nat := [0, 1, 0, 4, 12, 31, 63, 127]
theorem r5_Copy.tab5 : rtab .any (opsOf Try.f15 5) = r5_Copy.T5 := by kernel_rfl
theorem r5_Copy.bits5 : waitsOk r5_Copy.T5.2 r5_Copy.B5 = true := by kernel_rfl
set_option maxHeartbeats 8000000 in
set_option maxRecDepth 100000 in
theorem r5_Copy.calls (k : Nat) : ∀ (a0_0 : Int) (A0_1 : Option Addr) (c0_1 : Nat) (l0_1 : List (S66)) (A0_2 : Option Addr) (c0_2 : Nat) (l0_2 : List (S25)) (r1 : Int) (r2 : List (S66)) (r3 : List (S25)) (w : World) (hr0_1 : Kd.C k66 w A0_1 l0_1.length l0_1) (hc0_1 : l0_1.length ≤ c0_1) (hr0_2 : Kd.C k25 w A0_2 l0_2.length l0_2) (hc0_2 : l0_2.length ≤ c0_2) (h : r5_Copy.f k a0_0 l0_1 l0_2 = some (r1, r2, r3)),
 Calls Try.prog 15 #[.agg #[.int .i64 a0_0, .slice A0_1 l0_1.length c0_1, .slice A0_2 l0_2.length c0_2]] w fun e w' => ∃ v1_ v2_ : Value, e = .returned (.agg #[.int .i64 r1, v1_, v2_]) ∧ Kd.R k66 66 w' w.heap.size (fun _ => True) v1_ r2 ∧ Kd.R k25 25 w' w.heap.size (fun k_ => some k_ ≠ (v1_ : Value).ownBlock) v2_ r3 ∧ Below w.heap.size w w' := by
 induction k using Nat.strongRecOn with
 | _ k ih =>
 intro a0_0 A0_1 c0_1 l0_1 A0_2 c0_2 l0_2 r1 r2 r3 w hr0_1 hc0_1 hr0_2 hc0_2 h
 cases k with
 | zero => exact absurd h (by simp [r5_Copy.f])
 | succ k =>
 simp only [r5_Copy.f] at h
 have hu25 := Try.underlying25
 have HR0_1 := aM hr0_1
 have HC0_1 := aM hc0_1
 clear hr0_1 hc0_1
 have HR0_2 := aM hr0_2
 have HC0_2 := aM hc0_2
 clear hr0_2 hc0_2
 have HB := aM (Below.refl w.heap.size w)
 have H : ((some (([] : List (S66)) : List (S66))).bind fun y212 => (if y212.length + l0_1.length < 17592186044416 then (r5_Copy.l0 k l0_2 (l0_2.length : Int) 0 a0_0 (y212 ++ l0_1) ([] : List (S25))) else (none))) = some (r1, r2, r3) := h
 clear h
 obtain ⟨y212, hy212⟩ : ∃ y_ : List (S66), y_ = (([] : List (S66))) := ⟨_, rfl⟩
 replace H : (if y212.length + l0_1.length < 17592186044416 then (r5_Copy.l0 k l0_2 (l0_2.length : Int) 0 a0_0 (y212 ++ l0_1) ([] : List (S25))) else (none)) = some (r1, r2, r3) := by first | (rw [hy212]; with_reducible exact H) | (have H2_ := (Option.bind_some _ _).symm.trans H; rw [hy212]; with_reducible exact H2_) | (have H2_ := (Option.bind_some _ _).symm.trans H; with_reducible exact H2_) | with_reducible exact H | (rw [hy212]; exact H) | exact H
 have Ny212 := aM hy212
 clear hy212
 have c2 := ifn_ H
 rw [if_pos c2] at H
 have LMc2 := aM c2
 clear c2
 obtain ⟨y215, hy215⟩ : ∃ y_ : List (S66), y_ = (y212 ++ l0_1) := ⟨_, rfl⟩
 replace H : (r5_Copy.l0 k l0_2 (l0_2.length : Int) 0 a0_0 y215 ([] : List (S25))) = some (r1, r2, r3) := by first | (rw [hy215]; with_reducible exact H) | (have H2_ := (Option.bind_some _ _).symm.trans H; rw [hy215]; with_reducible exact H2_) | (have H2_ := (Option.bind_some _ _).symm.trans H; with_reducible exact H2_) | with_reducible exact H | (rw [hy215]; exact H) | exact H
 have Ny215 := aM hy215
 clear hy215
 have H' := aM H
 clear H
 go_enter Try.func15, Try.ntmps15
 try go_wp2_with (first | ((with_reducible refine gd_ 1 rfl ?_); refine be_ #[.int .i64 a0_0, .slice A0_1 l0_1.length c0_1, .slice A0_2 l0_2.length c0_2] 25 ?_; intro gb210 hg w3 BK210 hb; have GW210 := ge_ HB hg; have GE210 := ge_ HB hg; replace HB := bs_ HB hb; clear hb hg) | ((with_reducible refine gd_ 2 rfl ?_); refine be_ #[.int .i64 0, .slice none 0 0, .slice none 0 0] 25 ?_; intro gb211 hg w4 BK211 hb; have GW211 := ge_ HB hg; have GE211 := ge_ HB hg; have NB210_211 := nl_ BK210 hg; have NB211_210 := ng_ BK210 hg; replace BK210 := bb_ BK210 hb; replace HB := bs_ HB hb; clear hb hg))
 replace BK210 := aM (blk_drew BK210.out)
 replace BK211 := aM (blk_drew BK211.out)
 replace HB := aM (below_drew1 HB.out)
 refine start_ (n := 9) (S := fun w' => w'.cell? ⟨gb210, 0, none⟩ = some (.int .i64 a0_0) ∧ w'.cell? ⟨gb210, 1, none⟩ = some (.slice A0_1 l0_1.length c0_1) ∧ w'.cell? ⟨gb210, 2, none⟩ = some (.slice A0_2 l0_2.length c0_2)) (ds := []) (tf 0 9) (by kernel_rfl) rfl rfl (bd3_ BK210) (fun hHeld => ?_); refine with_tabW r5_Copy.tab1 r5_Copy.bits1 (fun HT_ HW_ => ?_)
 generalize w4.drew = w5 at BK210 BK211 HB hHeld ⊢
 refine pA_ 0 (some 6) ?_
 refine pA_ 3 (some 9) ?_
 refine pT_ 1 (some 7) hHeld ?_
 refine pT_ 4 (some 10) hHeld ?_
 refine join_ (σ := Value × Value × Nat) 1 (tf 8 1) (fun s_ => [(8, s_.1), (11, s_.2.1), (3, .pointer (some ⟨s_.2.2, 0, none⟩)), (12, .agg #[.int .i64 a0_0, s_.2.1, .slice none 0 0])]) (fun s_ w' => (w'.cell? ⟨gb210, 0, none⟩ = some (.int .i64 a0_0) ∧ w'.cell? ⟨gb210, 1, none⟩ = some (.slice A0_1 l0_1.length c0_1) ∧ w'.cell? ⟨gb210, 2, none⟩ = some (.slice A0_2 l0_2.length c0_2)) ∧ (Kd.R k66 66 w' w.heap.size (fun _ => True) s_.2.1 y215) ∧ (w'.heap[gb210]? = some (.cells #[.int .i64 a0_0, .slice A0_1 l0_1.length c0_1, .slice A0_2 l0_2.length c0_2] 25 (0, 0))) ∧ (w'.heap[gb211]? = some (.cells #[.int .i64 0, .slice none 0 0, .slice none 0 0] 25 (0, 0))) ∧ (w'.heap[s_.2.2]? = some (.cells #[.int .i64 0, .slice none 0 0, .slice none 0 0] 25 (0, 0))) ∧ (w.heap.size ≤ s_.2.2) ∧ (w.heap.size ≤ s_.2.2) ∧ (gb210 ≠ s_.2.2) ∧ (s_.2.2 ≠ gb210) ∧ (gb211 ≠ s_.2.2) ∧ (s_.2.2 ≠ gb211) ∧ (Below w.heap.size w w')) ?_ ?_
 rotate_left
 · intro hCont
   refine two_ (i := 2) (j := 7) (Ni := some 8) (Nj := some 3) (tf 5 4) #[true, true, false, true, true, false, false, true, false] rfl rfl rfl rfl (two_of HT_.out (by kernel_rfl)) (by decide) (by decide) (fun K hK => ?_) (fun K hK => ?_)
   · skip
     refine Kd.R_lit_step k66 _ 66 ?hg (N := 8) ?hd (xs := ([] : List (S66))) (inner := []) (ok := fun _ => True) (okp := fun _ => True) ?hr ?hp (fun _ hk => hk) trivial (Below.refl _ _) (Nat.le_refl _) (by simp) ?_; (case hd => rfl); (case hg => rfl); (case hr => first | (go_simp; done) | (go_simp; rfl)); (case hp => exact (Reps.none _ _))
     intro v213 w6 ho7 hb hg_ hnew_
     clear hg_ hnew_
     (first | rw [← Ny212.out] at ho7 | (simp only [Int.reduceToNat] at ho7; rw [← Ny212.out] at ho7))
     have HO214 := aM (Kd.R_lower ho7 (below_size (bw_ HB.out)))
     replace BK210 := bb_ BK210 hb
     replace BK211 := bb_ BK211 hb
     replace HB := bs_ HB hb
     clear hb ho7
     refine hK.out _ _ (bd3_ BK210) (fun hHeld => ?_)
     clear hK K
     refine nO_ (some 8) ?_
     refine two_ (i := 5) (j := 7) (Ni := some 11) (Nj := some 3) (tf 6 3) #[true, true, true, true, true, false, false, true, false] rfl rfl rfl rfl (two_of HT_.out (by kernel_rfl)) (by decide) (by decide) (fun K hK => ?_) (fun K hK => ?_)
     · skip
       refine Kd.R_append_rows_step k66 (w0 := w) w.heap.size (by rfl) (.tmp 8) (.tmp 10) 22 66 (.agg #[(.int .u32 0), (.int .u32 0)]) 8 rfl Try.underlying22 info66 rfl (by decide) (by omega) v213 y212 l0_1 _ _ _ (fun _ => True) (fun _ => False) rfl rfl ?aO ?aR (fun _ _ h => h) (fun _ h => h.elim) ?aF ?aB ?aS ?aL ?_
       (case aR => exact cB_ HR0_1 HB)
       (case aB => exact (bw_ HB.out))
       (case aF => exact (fun _ _ => trivial))
       (case aO => exact (uk_ HO214.out))
       (case aS => exact (below_size (bw_ HB.out)))
       (case aL => have := LMc2.out; omega)
       intro v216 w8 ho hb hg hat
       rw [← Ny215.out] at ho
       have HO217 := aM ho
       replace BK210 := aM (blk_grown (g := gb210) (o := .cells #[.int .i64 a0_0, .slice A0_1 l0_1.length c0_1, .slice A0_2 l0_2.length c0_2] 25 (0, 0)) (ub_ BK210.out) hg (Kd.R_ne HO214.out BK210.out (by decide)))
       replace BK211 := aM (blk_grown (g := gb211) (o := .cells #[.int .i64 0, .slice none 0 0, .slice none 0 0] 25 (0, 0)) (ub_ BK211.out) hg (Kd.R_ne HO214.out BK211.out (by decide)))
       replace HB := aM hb
       clear HO214
       clear ho hb hg hat
       obtain ⟨Ao9, co9, eo9⟩ := Kd.R_slice HO217.out
       (first | subst eo9 | (injection eo9 with f1_ f2_ f3_; have f4_ := f1_.symm; have f5_ := f3_.symm; clear f1_ f2_ f3_; subst f4_; subst f5_))
       refine hK.out _ _ (bd3_ BK210) (fun hHeld => ?_)
       clear hK K
       refine nO_ (some 11) ?_
       refine pA_ 6 (some 12) ?_
       refine pO_ 7 (some 3) (fun K hK => ?_)
       refine box_step ?hg (N := 3) ?hd (cs := #[.int .i64 0, .slice none 0 0, .slice none 0 0]) (t := 25) ?hr ?_; (case hd => rfl); (case hg => rfl); (case hr => first | (go_simp; done) | (go_simp; rfl))
       intro gb218 hg w10 hbox hb
       have BK218 := aM hbox
       have GW218 := ge_ HB hg
       have GE218 := ge_ HB hg
       have NB210_218 := nl_ BK210 hg
       have NB218_210 := ng_ BK210 hg
       have NB211_218 := nl_ BK211 hg
       have NB218_211 := ng_ BK211 hg
       replace HO217 := aM (Kd.R_below (uk_ HO217.out) hb)
       replace BK210 := bb_ BK210 hb
       replace BK211 := bb_ BK211 hb
       replace HB := bs_ HB hb
       clear hb hbox hg
       refine hK.out _ _ (bd3_ BK210) (fun hHeld => ?_)
       clear hK K
       refine nO_ (some 3) ?_
       exact norm_ (by simp only [putAll, Act.put, sT, sZ, sS]) (hCont (v213, .slice Ao9 y215.length co9, gb218) _ ⟨hHeld, (uk_ HO217.out), (ub_ BK210.out), (ub_ BK211.out), (ub_ BK218.out), GW218.out, GE218.out, NB210_218.out, NB218_210.out, NB211_218.out, NB218_211.out, (bw_ HB.out)⟩)
     · skip
       refine box_step ?hg (N := 3) ?hd (cs := #[.int .i64 0, .slice none 0 0, .slice none 0 0]) (t := 25) ?hr ?_; (case hd => rfl); (case hg => rfl); (case hr => first | (go_simp; done) | (go_simp; rfl))
       intro gb218 hg w8 hbox hb
       have BK218 := aM hbox
       have GW218 := ge_ HB hg
       have GE218 := ge_ HB hg
       have NB210_218 := nl_ BK210 hg
       have NB218_210 := ng_ BK210 hg
       have NB211_218 := nl_ BK211 hg
       have NB218_211 := ng_ BK211 hg
       replace HO214 := aM (Kd.R_below (uk_ HO214.out) hb)
       replace BK210 := bb_ BK210 hb
       replace BK211 := bb_ BK211 hb
       replace HB := bs_ HB hb
       clear hb hbox hg
       refine hK.out _ _ (bd3_ BK210) (fun hHeld => ?_)
       clear hK K
       refine nO_ (some 3) ?_
       refine pO_ 5 (some 11) (fun K hK => ?_)
       refine Kd.R_append_rows_step k66 (w0 := w) w.heap.size (by rfl) (.tmp 8) (.tmp 10) 22 66 (.agg #[(.int .u32 0), (.int .u32 0)]) 8 rfl Try.underlying22 info66 rfl (by decide) (by omega) v213 y212 l0_1 _ _ _ (fun _ => True) (fun _ => False) rfl rfl ?aO ?aR (fun _ _ h => h) (fun _ h => h.elim) ?aF ?aB ?aS ?aL ?_
       (case aR => exact cB_ HR0_1 HB)
       (case aB => exact (bw_ HB.out))
       (case aF => exact (fun _ _ => trivial))
       (case aO => exact (uk_ HO214.out))
       (case aS => exact (below_size (bw_ HB.out)))
       (case aL => have := LMc2.out; omega)
       intro v216 w9 ho hb hg hat
       rw [← Ny215.out] at ho
       have HO217 := aM ho
       replace BK210 := aM (blk_grown (g := gb210) (o := .cells #[.int .i64 a0_0, .slice A0_1 l0_1.length c0_1, .slice A0_2 l0_2.length c0_2] 25 (0, 0)) (ub_ BK210.out) hg (Kd.R_ne HO214.out BK210.out (by decide)))
       replace BK211 := aM (blk_grown (g := gb211) (o := .cells #[.int .i64 0, .slice none 0 0, .slice none 0 0] 25 (0, 0)) (ub_ BK211.out) hg (Kd.R_ne HO214.out BK211.out (by decide)))
       replace BK218 := aM (blk_grown (g := gb218) (o := .cells #[.int .i64 0, .slice none 0 0, .slice none 0 0] 25 (0, 0)) (ub_ BK218.out) hg (Kd.R_ne HO214.out BK218.out (by decide)))
       replace HB := aM hb
       clear HO214
       clear ho hb hg hat
       obtain ⟨Ao10, co10, eo10⟩ := Kd.R_slice HO217.out
       (first | subst eo10 | (injection eo10 with f1_ f2_ f3_; have f4_ := f1_.symm; have f5_ := f3_.symm; clear f1_ f2_ f3_; subst f4_; subst f5_))
       refine hK.out _ _ (bd3_ BK210) (fun hHeld => ?_)
       clear hK K
       refine nO_ (some 11) ?_
       refine pA_ 6 (some 12) ?_
       exact norm_ (by simp only [putAll, Act.put, sT, sZ, sS]) (hCont (v213, .slice Ao10 y215.length co10, gb218) _ ⟨hHeld, (uk_ HO217.out), (ub_ BK210.out), (ub_ BK211.out), (ub_ BK218.out), GW218.out, GE218.out, NB210_218.out, NB218_210.out, NB211_218.out, NB218_211.out, (bw_ HB.out)⟩)
   · skip
     refine box_step ?hg (N := 3) ?hd (cs := #[.int .i64 0, .slice none 0 0, .slice none 0 0]) (t := 25) ?hr ?_; (case hd => rfl); (case hg => rfl); (case hr => first | (go_simp; done) | (go_simp; rfl))
     intro gb218 hg w6 hbox hb
     have BK218 := aM hbox
     have GW218 := ge_ HB hg
     have GE218 := ge_ HB hg
     have NB210_218 := nl_ BK210 hg
     have NB218_210 := ng_ BK210 hg
     have NB211_218 := nl_ BK211 hg
     have NB218_211 := ng_ BK211 hg
     replace BK210 := bb_ BK210 hb
     replace BK211 := bb_ BK211 hb
     replace HB := bs_ HB hb
     clear hb hbox hg
     refine hK.out _ _ (bd3_ BK210) (fun hHeld => ?_)
     clear hK K
     refine nO_ (some 3) ?_
     refine pO_ 2 (some 8) (fun K hK => ?_)
     refine Kd.R_lit_step k66 _ 66 ?hg (N := 8) ?hd (xs := ([] : List (S66))) (inner := []) (ok := fun _ => True) (okp := fun _ => True) ?hr ?hp (fun _ hk => hk) trivial (Below.refl _ _) (Nat.le_refl _) (by simp) ?_; (case hd => rfl); (case hg => rfl); (case hr => first | (go_simp; done) | (go_simp; rfl)); (case hp => exact (Reps.none _ _))
     intro v213 w7 ho8 hb hg_ hnew_
     clear hg_ hnew_
     (first | rw [← Ny212.out] at ho8 | (simp only [Int.reduceToNat] at ho8; rw [← Ny212.out] at ho8))
     have HO214 := aM (Kd.R_lower ho8 (below_size (bw_ HB.out)))
     replace BK210 := bb_ BK210 hb
     replace BK211 := bb_ BK211 hb
     replace BK218 := bb_ BK218 hb
     replace HB := bs_ HB hb
     clear hb ho8
     refine hK.out _ _ (bd3_ BK210) (fun hHeld => ?_)
     clear hK K
     refine nO_ (some 8) ?_
     refine pO_ 5 (some 11) (fun K hK => ?_)
     refine Kd.R_append_rows_step k66 (w0 := w) w.heap.size (by rfl) (.tmp 8) (.tmp 10) 22 66 (.agg #[(.int .u32 0), (.int .u32 0)]) 8 rfl Try.underlying22 info66 rfl (by decide) (by omega) v213 y212 l0_1 _ _ _ (fun _ => True) (fun _ => False) rfl rfl ?aO ?aR (fun _ _ h => h) (fun _ h => h.elim) ?aF ?aB ?aS ?aL ?_
     (case aR => exact cB_ HR0_1 HB)
     (case aB => exact (bw_ HB.out))
     (case aF => exact (fun _ _ => trivial))
     (case aO => exact (uk_ HO214.out))
     (case aS => exact (below_size (bw_ HB.out)))
     (case aL => have := LMc2.out; omega)
     intro v216 w9 ho hb hg hat
     rw [← Ny215.out] at ho
     have HO217 := aM ho
     replace BK210 := aM (blk_grown (g := gb210) (o := .cells #[.int .i64 a0_0, .slice A0_1 l0_1.length c0_1, .slice A0_2 l0_2.length c0_2] 25 (0, 0)) (ub_ BK210.out) hg (Kd.R_ne HO214.out BK210.out (by decide)))
     replace BK211 := aM (blk_grown (g := gb211) (o := .cells #[.int .i64 0, .slice none 0 0, .slice none 0 0] 25 (0, 0)) (ub_ BK211.out) hg (Kd.R_ne HO214.out BK211.out (by decide)))
     replace BK218 := aM (blk_grown (g := gb218) (o := .cells #[.int .i64 0, .slice none 0 0, .slice none 0 0] 25 (0, 0)) (ub_ BK218.out) hg (Kd.R_ne HO214.out BK218.out (by decide)))
     replace HB := aM hb
     clear HO214
     clear ho hb hg hat
     obtain ⟨Ao10, co10, eo10⟩ := Kd.R_slice HO217.out
     (first | subst eo10 | (injection eo10 with f1_ f2_ f3_; have f4_ := f1_.symm; have f5_ := f3_.symm; clear f1_ f2_ f3_; subst f4_; subst f5_))
     refine hK.out _ _ (bd3_ BK210) (fun hHeld => ?_)
     clear hK K
     refine nO_ (some 11) ?_
     refine pA_ 6 (some 12) ?_
     exact norm_ (by simp only [putAll, Act.put, sT, sZ, sS]) (hCont (v213, .slice Ao10 y215.length co10, gb218) _ ⟨hHeld, (uk_ HO217.out), (ub_ BK210.out), (ub_ BK211.out), (ub_ BK218.out), GW218.out, GE218.out, NB210_218.out, NB218_210.out, NB211_218.out, NB218_211.out, (bw_ HB.out)⟩)
 rintro ⟨v213, v216, gb218⟩ w11 ⟨hS_, h0_, h1_, h2_, h3_, h4_, h5_, h6_, h7_, h8_, h9_, h10_⟩
 have n0_ : Aside0 (Kd.R k66 66 w11 w.heap.size (fun _ => True) v216 y215) := ⟨h0_⟩
 have n1_ : Aside0 (w11.heap[gb210]? = some (.cells #[.int .i64 a0_0, .slice A0_1 l0_1.length c0_1, .slice A0_2 l0_2.length c0_2] 25 (0, 0))) := ⟨h1_⟩
 have n2_ : Aside0 (w11.heap[gb211]? = some (.cells #[.int .i64 0, .slice none 0 0, .slice none 0 0] 25 (0, 0))) := ⟨h2_⟩
 have n3_ : Aside0 (w11.heap[gb218]? = some (.cells #[.int .i64 0, .slice none 0 0, .slice none 0 0] 25 (0, 0))) := ⟨h3_⟩
 have n4_ : Aside0 (w.heap.size ≤ gb218) := ⟨h4_⟩
 have n5_ : Aside0 (w.heap.size ≤ gb218) := ⟨h5_⟩
 have n6_ : Aside0 (gb210 ≠ gb218) := ⟨h6_⟩
 have n7_ : Aside0 (gb218 ≠ gb210) := ⟨h7_⟩
 have n8_ : Aside0 (gb211 ≠ gb218) := ⟨h8_⟩
 have n9_ : Aside0 (gb218 ≠ gb211) := ⟨h9_⟩
 have n10_ : Aside0 (Below w.heap.size w w11) := ⟨h10_⟩
 clear BK210
 clear BK211
 clear HB
 clear h0_ h1_ h2_ h3_ h4_ h5_ h6_ h7_ h8_ h9_ h10_
 have HO217 := n0_
 have BK210 := n1_
 have BK211 := n2_
 have BK218 := n3_
 have GW218 := n4_
 have GE218 := n5_
 have NB210_218 := n6_
 have NB218_210 := n7_
 have NB211_218 := n8_
 have NB218_211 := n9_
 have HB := n10_
 clear n0_ n1_ n2_ n3_ n4_ n5_ n6_ n7_ n8_ n9_ n10_
 have hHeld : w11.cell? ⟨gb210, 0, none⟩ = some (.int .i64 a0_0) ∧ w11.cell? ⟨gb210, 1, none⟩ = some (.slice A0_1 l0_1.length c0_1) ∧ w11.cell? ⟨gb210, 2, none⟩ = some (.slice A0_2 l0_2.length c0_2) := hS_
 obtain ⟨Ao12, co12, eo12⟩ := Kd.R_slice HO217.out
 (first | subst eo12 | (injection eo12 with f1_ f2_ f3_; have f4_ := f1_.symm; have f5_ := f3_.symm; clear f1_ f2_ f3_; subst f4_; subst f5_))
 refine norm_ (a' := ?_) ?_ ?_
 rotate_left
 · simp only [putAll, Act.put, sT, sZ, sS]
   rfl
 refine pO_ 8 none (fun K hK => ?_)
 have hs13 : w11.cell? ⟨gb218, 0, none⟩ = some (.int .i64 0) := (blk_cell BK218.out 0).trans rfl
 have hfs13 := bF BK218.out 0
 have hns13_0 := NB210_218.out
 have hns13_1 := NB211_218.out
 have hms13_0 := NB218_210.out
 have hms13_1 := NB218_211.out
 have hs14 : w11.cell? ⟨gb218, 1, none⟩ = some (.slice none 0 0) := (blk_cell BK218.out 1).trans rfl
 have hfs14 := bF BK218.out 1
 have hns14_0 := NB210_218.out
 have hns14_1 := NB211_218.out
 have hms14_0 := NB218_210.out
 have hms14_1 := NB218_211.out
 have hs15 : w11.cell? ⟨gb218, 2, none⟩ = some (.slice none 0 0) := (blk_cell BK218.out 2).trans rfl
 have hfs15 := bF BK218.out 2
 have hns15_0 := NB210_218.out
 have hns15_1 := NB211_218.out
 have hms15_0 := NB218_210.out
 have hms15_1 := NB218_211.out
 refine skip_ (w1 := ?_) (by rfl) rfl ?_ ?_
 rotate_left
 · go_simp
   rfl
 refine hK.out _ _ ⟨((cell_far (p := ⟨gb218, _, none⟩) NB210_218.out _).trans (((cell_far (p := ⟨gb218, _, none⟩) NB210_218.out _).trans (((cell_far (p := ⟨gb218, _, none⟩) NB210_218.out _).trans (hHeld.1)))))), ((cell_far (p := ⟨gb218, _, none⟩) NB210_218.out _).trans (((cell_far (p := ⟨gb218, _, none⟩) NB210_218.out _).trans (((cell_far (p := ⟨gb218, _, none⟩) NB210_218.out _).trans (hHeld.2.1)))))), ((cell_far (p := ⟨gb218, _, none⟩) NB210_218.out _).trans (((cell_far (p := ⟨gb218, _, none⟩) NB210_218.out _).trans (((cell_far (p := ⟨gb218, _, none⟩) NB210_218.out _).trans (hHeld.2.2))))))⟩ (fun hHeld => ?_)
 clear hK K
 refine done_ (done_of HT_.out (by kernel_rfl)) ?_
 have hnb16 := NB210_211.out
 have hnc16 := NB211_210.out
 have hnb17 := NB210_218.out
 have hnc17 := NB218_210.out
 obtain ⟨hcz18_0, hcz18_1, hcz18_2, hfz18_0, hfz18_1, hfz18_2⟩ := bc3_ BK210
 try go_wp2
 go_loopg [16] k (fun kq v16 w' => ∃ (x16_1 : Int) (x219002_1 : List (S25)) (u219002 : Value), v16 = .int .i64 x16_1 ∧ Aside0 (r5_Copy.l0 kq l0_2 (l0_2.length : Int) x16_1 a0_0 y215 x219002_1 = some (r1, r2, r3)) ∧ Aside0 (kq ≤ k) ∧ Aside0 (Kd.R k66 66 w' w.heap.size (fun _ => True) (.slice Ao12 y215.length co12) y215) ∧ Aside0 (Kd.R k25 25 w' w.heap.size (fun k_ => some k_ ≠ ((.slice Ao12 y215.length co12) : Value).ownBlock ∧ k_ ≠ gb210 ∧ k_ ≠ gb211 ∧ k_ ≠ gb218) u219002 x219002_1) ∧ Aside0 (w'.heap[gb210]? = some (.cells #[.int .i64 a0_0, (.slice A0_1 l0_1.length c0_1), (.slice A0_2 l0_2.length c0_2)] 25 (0, 0))) ∧ Aside0 (w'.heap[gb211]? = some (.cells #[.int .i64 0, (.slice none 0 0), (.slice none 0 0)] 25 (0, 0))) ∧ Aside0 (w'.heap[gb218]? = some (.cells #[.int .i64 a0_0, (.slice Ao12 y215.length co12), u219002] 25 (0, 0))) ∧ Aside0 (Below w.heap.size w w'))
 case atStart => exact ⟨(0), (([] : List (S25))), (.slice none 0 0), rf_, H', ⟨Nat.le_refl _⟩, ⟨by (with_reducible repeat (first | apply kA | apply kN | apply kD)); exact Kd.R_mono (Kd.R_far (p := ⟨gb218, 2, none⟩) (Kd.R_far (p := ⟨gb218, 1, none⟩) (Kd.R_far (p := ⟨gb218, 0, none⟩) (Kd.R_types HO217.out BK218.out (by decide)) (fun _ hk => hk.2) (.int .i64 a0_0)) (fun _ hk => hk.2) (.slice Ao12 y215.length co12)) (fun _ hk => hk.2) (.slice none 0 0)) (fun _ hk => trivial)⟩, ⟨by first | exact Kd.R_nil _ _ _ _ _ | exact Kd.N_nil _ _ _ _ _ | exact Kd.V_nil _ _ _ _ _ | exact Kd.Q_nil _ _ _ _ _ | exact Kd.S_nil _ _ _ _ _⟩, ⟨by (with_reducible repeat (first | apply bkN | apply bkD | apply bkA)); refine blk_far ?_ NB210_218.out _; (with_reducible repeat (first | apply bkN | apply bkD | apply bkA)); refine blk_far ?_ NB210_218.out _; (with_reducible repeat (first | apply bkN | apply bkD | apply bkA)); refine blk_far ?_ NB210_218.out _; (with_reducible repeat (first | apply bkN | apply bkD | apply bkA)); exact BK210.out⟩, ⟨by (with_reducible repeat (first | apply bkN | apply bkD | apply bkA)); refine blk_far ?_ NB211_218.out _; (with_reducible repeat (first | apply bkN | apply bkD | apply bkA)); refine blk_far ?_ NB211_218.out _; (with_reducible repeat (first | apply bkN | apply bkD | apply bkA)); refine blk_far ?_ NB211_218.out _; (with_reducible repeat (first | apply bkN | apply bkD | apply bkA)); exact BK211.out⟩, ⟨by (with_reducible repeat (first | apply bkN | apply bkD | apply bkA)); refine blk_put (cs := #[.int .i64 a0_0, .slice Ao12 y215.length co12, .slice none 0 0]) ?_ 2 _ rfl; (with_reducible repeat (first | apply bkN | apply bkD | apply bkA)); refine blk_put (cs := #[.int .i64 a0_0, .slice none 0 0, .slice none 0 0]) ?_ 1 _ rfl; (with_reducible repeat (first | apply bkN | apply bkD | apply bkA)); refine blk_put (cs := #[.int .i64 0, .slice none 0 0, .slice none 0 0]) ?_ 0 _ rfl; (with_reducible repeat (first | apply bkN | apply bkD | apply bkA)); exact BK218.out⟩, ⟨bw_ HB.out⟩⟩
 case round =>
  clear H'
  obtain ⟨x16_1, x219002_1, u219002, rfl, HA, HK1, HO_219001, HO_219002, BK210, BK211, BK218, HB⟩ := hrel
  cases gk with
  | zero => exact absurd HA.out (by simp [r5_Copy.l0])
  | succ k1 =>
   have H := HA.out
   clear HA
   simp only [r5_Copy.l0] at H
   by_cases c19 : x16_1 < (l0_2.length : Int)
   rotate_left
   · rw [if_neg c19] at H
     replace c19 := decide_eq_false c19
     simp only [Option.some.injEq, Prod.mk.injEq] at H
     obtain ⟨rfl, rfl, rfl⟩ := H
     have hnb37 := NB218_210.out
     have hnc37 := NB210_218.out
     have hnb38 := NB218_211.out
     have hnc38 := NB211_218.out
     obtain ⟨hcz39_0, hcz39_1, hcz39_2, hfz39_0, hfz39_1, hfz39_2⟩ := bc3_ BK218
     have hnb40 := NB211_210.out
     have hnc40 := NB210_211.out
     obtain ⟨hcz41_0, hcz41_1, hcz41_2, hfz41_0, hfz41_1, hfz41_2⟩ := bc3_ BK211
     obtain ⟨Ao42, co42, eo42⟩ := Kd.R_slice HO_219002.out
     subst eo42
     go_wp2
     refine bodyPost_ret (results_cell_row rfl _ _ gb211 25 #[.int .i64 a0_0, .slice Ao12 y215.length co12, .slice Ao42 x219002_1.length co42] (0, 0) _ rfl (ub_ BK211.out) Try.underlying25 rfl (by kernel_rfl)) rfl ?_
     exact ⟨_, _, by first | rfl | (simp [errW_none, errW_some] <;> rfl) | (simp [*, errW_none, errW_some] <;> rfl), by (with_reducible repeat (first | apply kA | apply kN | apply kD)); exact Kd.R_mono (Kd.R_far (p := ⟨gb211, 2, none⟩) (Kd.R_far (p := ⟨gb211, 1, none⟩) (Kd.R_far (p := ⟨gb211, 0, none⟩) (Kd.R_types HO_219001.out BK211.out (by decide)) (fun _ hk => hk.2) (.int .i64 a0_0)) (fun _ hk => hk.2) (.slice Ao12 y215.length co12)) (fun _ hk => hk.2) (.slice Ao42 x219002_1.length co42)) (fun _ hk => trivial), by (with_reducible repeat (first | apply kA | apply kN | apply kD)); exact Kd.R_mono (Kd.R_far (p := ⟨gb211, 2, none⟩) (Kd.R_far (p := ⟨gb211, 1, none⟩) (Kd.R_far (p := ⟨gb211, 0, none⟩) (Kd.R_mono HO_219002.out (fun k_ hk => (⟨hk, hk.2.2.1⟩ : _ ∧ k_ ≠ gb211))) (fun _ hk => hk.2) (.int .i64 a0_0)) (fun _ hk => hk.2) (.slice Ao12 y215.length co12)) (fun _ hk => hk.2) (.slice Ao42 x219002_1.length co42)) (fun _ hk => hk.1.1), by repeat (first | (with_reducible first | exact HB.out | apply blA | apply blN | apply blD | refine bS ?_ GE210.out | refine bS ?_ GE211.out | refine bS ?_ GE218.out) | exact HB.out)⟩
   rw [if_pos c19] at H
   replace c19 := decide_eq_true c19
   obtain ⟨c20, H⟩ := ifd_ H
   obtain ⟨c21, H⟩ := ifd_ H
   obtain ⟨⟨t221, t222, t225⟩, A22, H⟩ := bnd_ H
   dsimp only at H
   have c23 := ifn_ H
   rw [if_pos c23] at H
   have LMc23 := aM c23
   clear c23
   obtain ⟨y228, hy228⟩ : ∃ y_ : List (S25), y_ = (x219002_1 ++ [(⟨t221, t222, t225⟩ : S25)]) := ⟨_, rfl⟩
   replace H : (r5_Copy.l0 k1 l0_2 (l0_2.length : Int) (wrap64 (x16_1 + 1)) a0_0 y215 y228) = some (r1, r2, r3) := by first | (rw [hy228]; with_reducible exact H) | (have H2_ := (Option.bind_some _ _).symm.trans H; rw [hy228]; with_reducible exact H2_) | (have H2_ := (Option.bind_some _ _).symm.trans H; with_reducible exact H2_) | with_reducible exact H | (rw [hy228]; exact H) | exact H
   have Ny228 := aM hy228
   clear hy228
   have H' := aM H
   clear H
   have p219 : 0 ≤ (x16_1 : Int) := od_
   have q219 : x16_1 < (l0_2.length : Int) := od_
   obtain ⟨ad219, A219_1, c219_1, A219_2, c219_2, e219, hx219_0, hx219_1, hx219_2, hl219_1, hi219_1, hl219_2, hi219_2⟩ := at_T25 HR0_2.out x16_1 p219 q219
   cases e219
   replace hx219_0 := hx_ HB hx219_0
   replace hx219_1 := hx_ HB hx219_1
   replace hx219_2 := hx_ HB hx219_2
   have HR219_1 := aM hi219_1
   have HC219_1 := aM hl219_1
   clear hi219_1 hl219_1
   have HR219_2 := aM hi219_2
   have HC219_2 := aM hl219_2
   clear hi219_2 hl219_2
   replace p219 := eq_true p219
   replace q219 := eq_true q219
   try go_wp2_with (first | ((with_reducible refine gd_ 5 rfl ?_); refine be_ #[.int .i64 0, .slice none 0 0, .slice none 0 0] 25 ?_; intro gb220 hg w24 BK220 hb; have GW220 := ge_ HB hg; have GE220 := ge_ HB hg; have NB210_220 := nl_ BK210 hg; have NB220_210 := ng_ BK210 hg; have NB211_220 := nl_ BK211 hg; have NB220_211 := ng_ BK211 hg; have NB218_220 := nl_ BK218 hg; have NB220_218 := ng_ BK218 hg; replace HO_219001 := aM (Kd.R_below (uk_ HO_219001.out) hb); replace HO_219002 := aM (Kd.R_below (Kd.R_elderB (uk_ HO_219002.out) gb220 (Nat.le_of_eq hg.symm)) hb); replace BK210 := bb_ BK210 hb; replace BK211 := bb_ BK211 hb; replace BK218 := bb_ BK218 hb; replace HB := bs_ HB hb; clear hb hg; have hnb25 := NB220_210.out; have hnc25 := NB210_220.out; have hnb26 := NB220_211.out; have hnc26 := NB211_220.out; have hnb27 := NB220_218.out; have hnc27 := NB218_220.out; obtain ⟨hcz28_0, hcz28_1, hcz28_2, hfz28_0, hfz28_1, hfz28_2⟩ := bc3_ BK220))
   have n0_ : Aside0 (Kd.R k66 66 (((w24.setCell ⟨gb220, 0, none⟩ (.int .i64 ((rd_T25 l0_2 x16_1).f0))).setCell ⟨gb220, 1, none⟩ (.slice A219_1 ((rd_T25 l0_2 x16_1).f1).length c219_1)).setCell ⟨gb220, 2, none⟩ (.slice A219_2 ((rd_T25 l0_2 x16_1).f2).length c219_2)) w.heap.size (fun _ => True) (.slice Ao12 y215.length co12) y215) := ⟨by (with_reducible repeat (first | apply kA | apply kN | apply kD)); exact Kd.R_mono (Kd.R_far (p := ⟨gb220, 2, none⟩) (Kd.R_far (p := ⟨gb220, 1, none⟩) (Kd.R_far (p := ⟨gb220, 0, none⟩) (Kd.R_types HO_219001.out BK220.out (by decide)) (fun _ hk => hk.2) (.int .i64 ((rd_T25 l0_2 x16_1).f0))) (fun _ hk => hk.2) (.slice A219_1 ((rd_T25 l0_2 x16_1).f1).length c219_1)) (fun _ hk => hk.2) (.slice A219_2 ((rd_T25 l0_2 x16_1).f2).length c219_2)) (fun _ hk => trivial)⟩
   have n1_ : Aside0 (Kd.R k25 25 (((w24.setCell ⟨gb220, 0, none⟩ (.int .i64 ((rd_T25 l0_2 x16_1).f0))).setCell ⟨gb220, 1, none⟩ (.slice A219_1 ((rd_T25 l0_2 x16_1).f1).length c219_1)).setCell ⟨gb220, 2, none⟩ (.slice A219_2 ((rd_T25 l0_2 x16_1).f2).length c219_2)) w.heap.size (fun k_ => some k_ ≠ (.slice Ao12 y215.length co12 : Value).ownBlock ∧ k_ ≠ gb210 ∧ k_ ≠ gb211 ∧ k_ ≠ gb218 ∧ k_ ≠ gb220) u219002 x219002_1) := ⟨by (with_reducible repeat (first | apply kA | apply kN | apply kD)); exact Kd.R_mono (Kd.R_far (p := ⟨gb220, 2, none⟩) (Kd.R_far (p := ⟨gb220, 1, none⟩) (Kd.R_far (p := ⟨gb220, 0, none⟩) (Kd.R_mono HO_219002.out (fun k_ hk => (⟨hk, hk.2⟩ : _ ∧ k_ ≠ gb220))) (fun _ hk => hk.2) (.int .i64 ((rd_T25 l0_2 x16_1).f0))) (fun _ hk => hk.2) (.slice A219_1 ((rd_T25 l0_2 x16_1).f1).length c219_1)) (fun _ hk => hk.2) (.slice A219_2 ((rd_T25 l0_2 x16_1).f2).length c219_2)) (fun _ hk => ⟨hk.1.1.1, ⟨hk.1.1.2.1, ⟨hk.1.1.2.2.1, ⟨hk.1.1.2.2.2, hk.1.2⟩⟩⟩⟩)⟩
   have n2_ : Aside0 ((((w24.setCell ⟨gb220, 0, none⟩ (.int .i64 ((rd_T25 l0_2 x16_1).f0))).setCell ⟨gb220, 1, none⟩ (.slice A219_1 ((rd_T25 l0_2 x16_1).f1).length c219_1)).setCell ⟨gb220, 2, none⟩ (.slice A219_2 ((rd_T25 l0_2 x16_1).f2).length c219_2)).heap[gb210]? = some (.cells #[.int .i64 a0_0, .slice A0_1 l0_1.length c0_1, .slice (some ad219) l0_2.length c0_2] 25 (0, 0))) := ⟨by (with_reducible repeat (first | apply bkN | apply bkD | apply bkA)); refine blk_far ?_ NB210_220.out _; (with_reducible repeat (first | apply bkN | apply bkD | apply bkA)); refine blk_far ?_ NB210_220.out _; (with_reducible repeat (first | apply bkN | apply bkD | apply bkA)); refine blk_far ?_ NB210_220.out _; (with_reducible repeat (first | apply bkN | apply bkD | apply bkA)); exact BK210.out⟩
   have n3_ : Aside0 ((((w24.setCell ⟨gb220, 0, none⟩ (.int .i64 ((rd_T25 l0_2 x16_1).f0))).setCell ⟨gb220, 1, none⟩ (.slice A219_1 ((rd_T25 l0_2 x16_1).f1).length c219_1)).setCell ⟨gb220, 2, none⟩ (.slice A219_2 ((rd_T25 l0_2 x16_1).f2).length c219_2)).heap[gb211]? = some (.cells #[.int .i64 0, .slice none 0 0, .slice none 0 0] 25 (0, 0))) := ⟨by (with_reducible repeat (first | apply bkN | apply bkD | apply bkA)); refine blk_far ?_ NB211_220.out _; (with_reducible repeat (first | apply bkN | apply bkD | apply bkA)); refine blk_far ?_ NB211_220.out _; (with_reducible repeat (first | apply bkN | apply bkD | apply bkA)); refine blk_far ?_ NB211_220.out _; (with_reducible repeat (first | apply bkN | apply bkD | apply bkA)); exact BK211.out⟩
   have n4_ : Aside0 ((((w24.setCell ⟨gb220, 0, none⟩ (.int .i64 ((rd_T25 l0_2 x16_1).f0))).setCell ⟨gb220, 1, none⟩ (.slice A219_1 ((rd_T25 l0_2 x16_1).f1).length c219_1)).setCell ⟨gb220, 2, none⟩ (.slice A219_2 ((rd_T25 l0_2 x16_1).f2).length c219_2)).heap[gb218]? = some (.cells #[.int .i64 a0_0, .slice Ao12 y215.length co12, u219002] 25 (0, 0))) := ⟨by (with_reducible repeat (first | apply bkN | apply bkD | apply bkA)); refine blk_far ?_ NB218_220.out _; (with_reducible repeat (first | apply bkN | apply bkD | apply bkA)); refine blk_far ?_ NB218_220.out _; (with_reducible repeat (first | apply bkN | apply bkD | apply bkA)); refine blk_far ?_ NB218_220.out _; (with_reducible repeat (first | apply bkN | apply bkD | apply bkA)); exact BK218.out⟩
   have n5_ : Aside0 ((((w24.setCell ⟨gb220, 0, none⟩ (.int .i64 ((rd_T25 l0_2 x16_1).f0))).setCell ⟨gb220, 1, none⟩ (.slice A219_1 ((rd_T25 l0_2 x16_1).f1).length c219_1)).setCell ⟨gb220, 2, none⟩ (.slice A219_2 ((rd_T25 l0_2 x16_1).f2).length c219_2)).heap[gb220]? = some (.cells #[.int .i64 ((rd_T25 l0_2 x16_1).f0), .slice A219_1 ((rd_T25 l0_2 x16_1).f1).length c219_1, .slice A219_2 ((rd_T25 l0_2 x16_1).f2).length c219_2] 25 (0, 0))) := ⟨by (with_reducible repeat (first | apply bkN | apply bkD | apply bkA)); refine blk_put (cs := #[.int .i64 ((rd_T25 l0_2 x16_1).f0), .slice A219_1 ((rd_T25 l0_2 x16_1).f1).length c219_1, .slice none 0 0]) ?_ 2 _ rfl; (with_reducible repeat (first | apply bkN | apply bkD | apply bkA)); refine blk_put (cs := #[.int .i64 ((rd_T25 l0_2 x16_1).f0), .slice none 0 0, .slice none 0 0]) ?_ 1 _ rfl; (with_reducible repeat (first | apply bkN | apply bkD | apply bkA)); refine blk_put (cs := #[.int .i64 0, .slice none 0 0, .slice none 0 0]) ?_ 0 _ rfl; (with_reducible repeat (first | apply bkN | apply bkD | apply bkA)); exact BK220.out⟩
   have n6_ : Aside0 (Below w.heap.size w (((w24.setCell ⟨gb220, 0, none⟩ (.int .i64 ((rd_T25 l0_2 x16_1).f0))).setCell ⟨gb220, 1, none⟩ (.slice A219_1 ((rd_T25 l0_2 x16_1).f1).length c219_1)).setCell ⟨gb220, 2, none⟩ (.slice A219_2 ((rd_T25 l0_2 x16_1).f2).length c219_2))) := ⟨bw_ HB.out⟩
   (try clear HO_219001)
   (try clear HO_219002)
   (try clear BK210)
   (try clear BK211)
   (try clear BK218)
   (try clear BK220)
   (try clear HB)
   generalize (((w24.setCell ⟨gb220, 0, none⟩ (.int .i64 ((rd_T25 l0_2 x16_1).f0))).setCell ⟨gb220, 1, none⟩ (.slice A219_1 ((rd_T25 l0_2 x16_1).f1).length c219_1)).setCell ⟨gb220, 2, none⟩ (.slice A219_2 ((rd_T25 l0_2 x16_1).f2).length c219_2)) = w29 at n0_ n1_ n2_ n3_ n4_ n5_ n6_ ⊢
   have HO_219001 := n0_
   have HO_219002 := n1_
   have BK210 := n2_
   have BK211 := n3_
   have BK218 := n4_
   have BK220 := n5_
   have HB := n6_
   clear n0_ n1_ n2_ n3_ n4_ n5_ n6_
   replace HO_219001 := aM (Kd.R_drew HO_219001.out)
   replace HO_219002 := aM (Kd.R_drew HO_219002.out)
   replace BK210 := aM (blk_drew BK210.out)
   replace BK211 := aM (blk_drew BK211.out)
   replace BK218 := aM (blk_drew BK218.out)
   replace BK220 := aM (blk_drew BK220.out)
   replace HB := aM (below_drew1 HB.out)
   refine start_ (n := 8) (S := fun w' => w'.cell? ⟨gb218, 0, none⟩ = some (.int .i64 a0_0) ∧ w'.cell? ⟨gb218, 1, none⟩ = some (.slice Ao12 y215.length co12) ∧ w'.cell? ⟨gb218, 2, none⟩ = some (u219002) ∧ w'.cell? ⟨gb220, 0, none⟩ = some (.int .i64 ((rd_T25 l0_2 x16_1).f0)) ∧ w'.cell? ⟨gb220, 1, none⟩ = some (.slice A219_1 ((rd_T25 l0_2 x16_1).f1).length c219_1) ∧ w'.cell? ⟨gb220, 2, none⟩ = some (.slice A219_2 ((rd_T25 l0_2 x16_1).f2).length c219_2)) (ds := [7]) (tf 0 8) (by kernel_rfl) rfl rfl ⟨(blk_cell BK218.out 0).trans rfl, (blk_cell BK218.out 1).trans rfl, (blk_cell BK218.out 2).trans rfl, (blk_cell BK220.out 0).trans rfl, (blk_cell BK220.out 1).trans rfl, (blk_cell BK220.out 2).trans rfl⟩ (fun hHeld => ?_); refine with_tabW r5_Copy.tab5 r5_Copy.bits5 (fun HT_ HW_ => ?_)
   generalize w29.drew = w30 at HO_219001 HO_219002 BK210 BK211 BK218 BK220 HB hHeld ⊢
   refine pA_ 0 (some 20) ?_
   refine pT_ 1 (some 21) hHeld ?_
   refine pT_ 2 (some 22) hHeld ?_
   refine pO_ 3 (some 23) (fun K hK => ?_)
   refine gO_ Try.func15 #[.agg #[.int .i64 ((rd_T25 l0_2 x16_1).f0), .slice A219_1 ((rd_T25 l0_2 x16_1).f1).length c219_1, .slice A219_2 ((rd_T25 l0_2 x16_1).f2).length c219_2]] rfl rfl ?_
   with_reducible refine (ih k1 (by have := HK1.out; omega) ((rd_T25 l0_2 x16_1).f0) _ _ ((rd_T25 l0_2 x16_1).f1) _ _ ((rd_T25 l0_2 x16_1).f2) t221 t222 t225 _ ?side1 ?side2 ?side3 ?side4 A22.out).mono ?_
   (case side1 => exact cB_ HR219_1 HB)
   (case side2 => exact HC219_1.out)
   (case side3 => exact cB_ HR219_2 HB)
   (case side4 => exact HC219_2.out)
   rintro e w31 ⟨v223, v226, rfl, ho0, ho1, hb⟩
   refine ⟨_, rfl, ?_⟩
   have HO224 := aM (Kd.R_lower (Kd.R_new' ho0 (Kd.R_lt (uk_ HO_219001.out))) (below_size (bw_ HB.out)))
   have HO227 := aM (Kd.R_lower (Kd.R_newB (Kd.R_newB (Kd.R_newB (Kd.R_newB (Kd.R_new' (Kd.R_new' ho1 (Kd.R_lt (uk_ HO_219001.out))) (Kd.R_lt (uk_ HO_219002.out))) (g := gb210) (o := .cells #[.int .i64 a0_0, .slice A0_1 l0_1.length c0_1, .slice (some ad219) l0_2.length c0_2] 25 (0, 0)) (ub_ BK210.out)) (g := gb211) (o := .cells #[.int .i64 0, .slice none 0 0, .slice none 0 0] 25 (0, 0)) (ub_ BK211.out)) (g := gb218) (o := .cells #[.int .i64 a0_0, .slice Ao12 y215.length co12, u219002] 25 (0, 0)) (ub_ BK218.out)) (g := gb220) (o := .cells #[.int .i64 ((rd_T25 l0_2 x16_1).f0), .slice A219_1 ((rd_T25 l0_2 x16_1).f1).length c219_1, .slice A219_2 ((rd_T25 l0_2 x16_1).f2).length c219_2] 25 (0, 0)) (ub_ BK220.out)) (below_size (bw_ HB.out)))
   replace HO_219001 := aM (Kd.R_elder' (uk_ HO_219001.out) (Kd.R_base ho0) hb)
   replace HO_219002 := aM (Kd.R_mono (Kd.R_told (Kd.R_told (Kd.R_old (uk_ HO_219002.out) hb) (Kd.R_base ho0)) (Kd.R_base ho1)) (fun _ h_ => h_.1))
   replace BK210 := bb_ BK210 hb
   replace BK211 := bb_ BK211 hb
   replace BK218 := bb_ BK218 hb
   replace BK220 := bb_ BK220 hb
   replace HB := bs_ HB hb
   (try clear hb)
   (try clear hb2)
   (try clear hk)
   (try clear hi)
   (try clear ho0)
   (try clear ho1)
   obtain ⟨Ao33, co33, eo33⟩ := Kd.R_slice HO224.out
   (first | subst eo33 | (injection eo33 with f1_ f2_ f3_; have f4_ := f1_.symm; have f5_ := f3_.symm; clear f1_ f2_ f3_; subst f4_; subst f5_))
   obtain ⟨Ao34, co34, eo34⟩ := Kd.R_slice HO227.out
   (first | subst eo34 | (injection eo34 with f1_ f2_ f3_; have f4_ := f1_.symm; have f5_ := f3_.symm; clear f1_ f2_ f3_; subst f4_; subst f5_))
   refine hK.out _ _ ⟨(blk_cell BK218.out 0).trans rfl, (blk_cell BK218.out 1).trans rfl, (blk_cell BK218.out 2).trans rfl, (blk_cell BK220.out 0).trans rfl, (blk_cell BK220.out 1).trans rfl, (blk_cell BK220.out 2).trans rfl⟩ (fun hHeld => ?_)
   clear hK K
   refine nO_ (some 23) ?_
   refine pO_ 4 (some 24) (fun K hK => ?_)
   refine value_ (w1 := ?_) (v := ?_) (by rfl) rfl ?_ ?_
   rotate_left 2
   · go_simp
     constructor
     · rfl
     · rfl
   refine hK.out _ _ ⟨(blk_cell (blk_alloc BK218.out _) 0).trans rfl, (blk_cell (blk_alloc BK218.out _) 1).trans rfl, (blk_cell (blk_alloc BK218.out _) 2).trans rfl, (blk_cell (blk_alloc BK220.out _) 0).trans rfl, (blk_cell (blk_alloc BK220.out _) 1).trans rfl, (blk_cell (blk_alloc BK220.out _) 2).trans rfl⟩ (fun hHeld => ?_)
   clear hK K
   refine nO_ (some 24) ?_
   refine pO_ 5 (some 25) (fun K hK => ?_)
   refine Kd.R_append_step k25 (w0 := w) w.heap.size (by rfl) (.tmp 21) (.tmp 24) 23 25 (.agg #[(.int .i64 0), (.slice none 0 0), (.slice none 0 0)]) 56 rfl Try.underlying23 info25 rfl (by decide) (by omega) u219002 x219002_1 (⟨t221, t222, t225⟩ : S25) [.int .i64 t221, .slice Ao33 t222.length co33, .slice Ao34 t225.length co34] (fun k_ => some k_ ≠ (.slice Ao12 y215.length co12 : Value).ownBlock ∧ k_ ≠ gb210 ∧ k_ ≠ gb211 ∧ k_ ≠ gb218 ∧ k_ ≠ gb220) (fun k_ => ((fun k_ => some k_ ≠ (.slice Ao12 y215.length co12 : Value).ownBlock ∧ k_ ≠ gb210 ∧ k_ ≠ gb211 ∧ k_ ≠ gb218 ∧ k_ ≠ gb220)) k_ ∧ some k_ ≠ (u219002 : Value).ownBlock) rfl rfl ?aP (fun _ hk => hk) ?aF ?aO ?aB ?aS ?aL ?_
   (case aP => exact k25_mkM _ _ _ (⟨t221, t222, t225⟩ : S25) (Kd.R_mono (Kd.R_types (Kd.R_types (Kd.R_types (Kd.R_types (Kd.R_apart' (HO224.out) (Kd.R_typed HO_219002.out) (by decide)) BK210.out (by decide)) BK211.out (by decide)) BK218.out (by decide)) BK220.out (by decide)) (fun k_ hk => ⟨⟨hk.1.1.1.1.1.2, ⟨hk.1.1.1.2, ⟨hk.1.1.2, ⟨hk.1.2, hk.2⟩⟩⟩⟩, hk.1.1.1.1.2⟩)) (Kd.R_mono (HO227.out) (fun k_ hk => ⟨⟨hk.1.1.1.1.1.2, ⟨hk.1.1.1.2, ⟨hk.1.1.2, ⟨hk.1.2, hk.2⟩⟩⟩⟩, hk.1.1.1.1.2⟩)))
   (case aB => exact (bw_ HB.out))
   (case aF => exact (fun k_ hk => ⟨Kd.fresh' (Kd.R_lt (uk_ HO_219001.out)) k_ hk, Kd.freshB (g := gb210) (o := .cells #[.int .i64 a0_0, .slice A0_1 l0_1.length c0_1, .slice (some ad219) l0_2.length c0_2] 25 (0, 0)) (ub_ BK210.out) k_ hk, Kd.freshB (g := gb211) (o := .cells #[.int .i64 0, .slice none 0 0, .slice none 0 0] 25 (0, 0)) (ub_ BK211.out) k_ hk, Kd.freshB (g := gb218) (o := .cells #[.int .i64 a0_0, .slice Ao12 y215.length co12, u219002] 25 (0, 0)) (ub_ BK218.out) k_ hk, Kd.freshB (g := gb220) (o := .cells #[.int .i64 ((rd_T25 l0_2 x16_1).f0), .slice A219_1 ((rd_T25 l0_2 x16_1).f1).length c219_1, .slice A219_2 ((rd_T25 l0_2 x16_1).f2).length c219_2] 25 (0, 0)) (ub_ BK220.out) k_ hk⟩))
   (case aO => exact (by (with_reducible repeat (first | apply kA | apply kN | apply kD)); exact Kd.R_mono HO_219002.out (fun _ hk => ⟨hk.1.1.1, ⟨hk.1.1.2.1, ⟨hk.1.1.2.2.1, ⟨hk.1.1.2.2.2.1, hk.1.1.2.2.2.2⟩⟩⟩⟩)))
   (case aS => exact (below_size (bw_ HB.out)))
   (case aL => have := LMc23.out; omega)
   intro v229 w32 ho hb hg hat
   rw [← Ny228.out] at ho
   have HO230 := aM ho
   replace HO_219001 := aM (Kd.R_over' (uk_ HO_219001.out) (Kd.R_typed (uk_ HO_219002.out)) (by decide) hg)
   replace BK210 := aM (blk_grown (g := gb210) (o := .cells #[.int .i64 a0_0, .slice A0_1 l0_1.length c0_1, .slice (some ad219) l0_2.length c0_2] 25 (0, 0)) (ub_ BK210.out) hg (Kd.R_away HO_219002.out (fun _ hk => hk.1.1.2.1)))
   replace BK211 := aM (blk_grown (g := gb211) (o := .cells #[.int .i64 0, .slice none 0 0, .slice none 0 0] 25 (0, 0)) (ub_ BK211.out) hg (Kd.R_away HO_219002.out (fun _ hk => hk.1.1.2.2.1)))
   replace BK218 := aM (blk_grown (g := gb218) (o := .cells #[.int .i64 a0_0, .slice Ao12 y215.length co12, u219002] 25 (0, 0)) (ub_ BK218.out) hg (Kd.R_away HO_219002.out (fun _ hk => hk.1.1.2.2.2.1)))
   replace BK220 := aM (blk_grown (g := gb220) (o := .cells #[.int .i64 ((rd_T25 l0_2 x16_1).f0), .slice A219_1 ((rd_T25 l0_2 x16_1).f1).length c219_1, .slice A219_2 ((rd_T25 l0_2 x16_1).f2).length c219_2] 25 (0, 0)) (ub_ BK220.out) hg (Kd.R_away HO_219002.out (fun _ hk => hk.1.1.2.2.2.2)))
   replace HB := aM hb
   clear HO_219002
   clear HO224
   clear HO227
   clear ho hb hg hat
   obtain ⟨Ao35, co35, eo35⟩ := Kd.R_slice HO230.out
   (first | subst eo35 | (injection eo35 with f1_ f2_ f3_; have f4_ := f1_.symm; have f5_ := f3_.symm; clear f1_ f2_ f3_; subst f4_; subst f5_))
   refine hK.out _ _ ⟨(blk_cell BK218.out 0).trans rfl, (blk_cell BK218.out 1).trans rfl, (blk_cell BK218.out 2).trans rfl, (blk_cell BK220.out 0).trans rfl, (blk_cell BK220.out 1).trans rfl, (blk_cell BK220.out 2).trans rfl⟩ (fun hHeld => ?_)
   clear hK K
   refine nO_ (some 25) ?_
   refine pA_ 6 (some 26) ?_
   refine last_ (i := 7) (N := none) (tf 8 0) rfl rfl (one_of HT_.out (by kernel_rfl)) (by decide) (fun K hK => ?_)
   have hs36 : w32.cell? ⟨gb218, 2, none⟩ = some (u219002) := (blk_cell BK218.out 2).trans rfl
   have hfs36 := bF BK218.out 2
   have hns36_0 := NB210_218.out
   have hns36_1 := NB211_218.out
   have hns36_3 := NB220_218.out
   have hms36_0 := NB218_210.out
   have hms36_1 := NB218_211.out
   have hms36_3 := NB218_220.out
   refine skip_ (w1 := ?_) (by rfl) rfl ?_ ?_
   rotate_left
   · go_simp
     rfl
   refine hK.out _ _ ?_
   clear hK K
   refine done_ (done_of HT_.out (by kernel_rfl)) ?_
   try go_wp2
   go_roundg k1
   case measure => have := HK1.out; omega
   case rel => exact ⟨(wrap64 (x16_1 + 1)), (y228), (.slice Ao35 y228.length co35), rf_, H', ⟨by have := HK1.out; omega⟩, ⟨by (with_reducible repeat (first | apply kA | apply kN | apply kD)); exact Kd.R_mono (Kd.R_far (p := ⟨gb218, 2, none⟩) (Kd.R_types HO_219001.out BK218.out (by decide)) (fun _ hk => hk.2) (.slice Ao35 y228.length co35)) (fun _ hk => trivial)⟩, ⟨by (with_reducible repeat (first | apply kA | apply kN | apply kD)); exact Kd.R_mono (Kd.R_far (p := ⟨gb218, 2, none⟩) (Kd.R_mono HO230.out (fun k_ hk => (⟨hk, hk.2.2.2.1⟩ : _ ∧ k_ ≠ gb218))) (fun _ hk => hk.2) (.slice Ao35 y228.length co35)) (fun _ hk => ⟨hk.1.1, ⟨hk.1.2.1, ⟨hk.1.2.2.1, hk.1.2.2.2.1⟩⟩⟩)⟩, ⟨by (with_reducible repeat (first | apply bkN | apply bkD | apply bkA)); refine blk_far ?_ NB210_218.out _; (with_reducible repeat (first | apply bkN | apply bkD | apply bkA)); exact BK210.out⟩, ⟨by (with_reducible repeat (first | apply bkN | apply bkD | apply bkA)); refine blk_far ?_ NB211_218.out _; (with_reducible repeat (first | apply bkN | apply bkD | apply bkA)); exact BK211.out⟩, ⟨by (with_reducible repeat (first | apply bkN | apply bkD | apply bkA)); refine blk_put (cs := #[.int .i64 a0_0, .slice Ao12 y215.length co12, u219002]) ?_ 2 _ rfl; (with_reducible repeat (first | apply bkN | apply bkD | apply bkA)); exact BK218.out⟩, ⟨bw_ HB.out⟩⟩
end Go.Proofs.Ytlkjfjlmjgkheaa.H
namespace Go.Proofs.Ytlkjfjlmjgkheaa.H
open Go.RowKit Go.Proofs.YtlkjfjlmjgkheaaW.PrintWords Go.Proofs.YtlkjfjlmjgkheaaW.PrintLast Go.Proofs.YtlkjfjlmjgkheaaW.PrintMore
attribute [local go_sem] max2_int min2_int max_two min_two max_three min_three max_four min_four
set_option linter.unusedVariables false
set_option linter.unusedSimpArgs false
def dragomanref11_CopyComms.l0 : Nat → List (S64) → List (S64) → Int → Int → Option ((List (S64)))
 | 0, _, _, _, _ => none
 | k + 1, x3, x6, x7, x8 => if x8 < x7 then (if 0 ≤ x8 then (if x8 < (x6.length : Int) then ((some (([] : List (S76)) : List (S76))).bind fun y233 => (if y233.length + ((rd_T64 x6 x8).f1).length < 17592186044416 then (if x3.length < 4398046511104 then (dragomanref11_CopyComms.l0 k (x3 ++ [(⟨(rd_T64 x6 x8).f0, (y233 ++ ((rd_T64 x6 x8).f1))⟩ : S64)]) x6 x7 (wrap64 (x8 + 1))) else (none)) else (none))) else (none)) else (none)) else (some x3)
def dragomanref11_CopyComms.f (k : Nat) (l0 : List (S64)) : Option ((List (S64))) := dragomanref11_CopyComms.l0 k ([] : List (S64)) l0 (l0.length : Int) 0
def dragomanref11_CopyComms.T5 : Bool × List (List Nat × List Nat) := (true, [([], []), ([], []), ([1], [1]), ([], []), ([], []), ([4], [4]), ([3, 5], [3, 5]), ([2, 6], [2, 6]), ([7], [7]), ([0, 8, 6], [0, 8]), ([9, 9, 0, 1, 2, 3, 4, 5, 6, 7, 8, 9], [0, 9])])
def dragomanref11_CopyComms.B5 : List Nat := [0, 0, 2, 0, 0, 16, 56, 126, 254, 511, 1023]
theorem dragomanref11_CopyComms.tab5 : rtab .any (opsOf Try.f52 5) = dragomanref11_CopyComms.T5 := by kernel_rfl
theorem dragomanref11_CopyComms.bits5 : waitsOk dragomanref11_CopyComms.T5.2 dragomanref11_CopyComms.B5 = true := by kernel_rfl
set_option maxHeartbeats 8000000 in
set_option maxRecDepth 100000 in
theorem dragomanref11_CopyComms.calls (k : Nat) (A0 : Option Addr) (c0 : Nat) (l0 : List (S64)) (r : List (S64)) (w : World) (hr0 : Kd.C k64 w A0 l0.length l0) (hc0 : l0.length ≤ c0) (h : dragomanref11_CopyComms.f k l0 = some r) :
 Calls Try.prog 52 #[.slice A0 l0.length c0] w fun e w' => ∃ v0_ : Value, e = .returned (v0_) ∧ Kd.S k64 64 w' w.heap.size (fun _ => True) v0_ r ∧ Below w.heap.size w w' := by
 have hu64 := Try.underlying64
 have HR0 := aM hr0
 have HC0 := aM hc0
 clear hr0 hc0
 have HB := aM (Below.refl w.heap.size w)
 have H : (dragomanref11_CopyComms.l0 k ([] : List (S64)) l0 (l0.length : Int) 0) = some r := h
 clear h
 have H' := aM H
 clear H
 go_enter Try.func52, Try.ntmps52
 go_wp2
 go_loopg [3, 8] k (fun kq v3 v8 w' => ∃ (x3_1 : List (S64)) (x8_1 : Int), v8 = .int .i64 x8_1 ∧ Aside0 (dragomanref11_CopyComms.l0 kq x3_1 l0 (l0.length : Int) x8_1 = some r) ∧ Aside0 (kq ≤ k) ∧ Aside0 (Kd.S k64 64 w' w.heap.size (fun _ => True) v3 x3_1) ∧ Aside0 (Below w.heap.size w w'))
 case atStart => exact ⟨(([] : List (S64))), (0), rf_, H', ⟨Nat.le_refl _⟩, ⟨by first | exact Kd.S_nil _ _ _ _ _ | exact Kd.N_nil _ _ _ _ _ | exact Kd.V_nil _ _ _ _ _ | exact Kd.Q_nil _ _ _ _ _ | exact Kd.R_nil _ _ _ _ _⟩, ⟨bw_ HB.out⟩⟩
 case round =>
  clear H'
  obtain ⟨x3_1, x8_1, rfl, HA, HK1, HO_3, HB⟩ := hrel
  cases gk with
  | zero => exact absurd HA.out (by simp [dragomanref11_CopyComms.l0])
  | succ k1 =>
   have H := HA.out
   clear HA
   simp only [dragomanref11_CopyComms.l0] at H
   by_cases c2 : x8_1 < (l0.length : Int)
   rotate_left
   · rw [if_neg c2] at H
     replace c2 := decide_eq_false c2
     obtain rfl := Option.some.inj H
     go_wp2
     first | go_ret | refine ⟨_, results_tmp rfl _ _ _, ?_⟩
     exact ⟨_, by first | rfl | (simp [errW_none, errW_some] <;> rfl) | (simp [*, errW_none, errW_some] <;> rfl), by (with_reducible repeat (first | apply Kd.S_alloc | apply Kd.S_drewN | apply Kd.S_drew)); exact HO_3.out, by repeat (first | (with_reducible first | exact HB.out | apply blA | apply blN | apply blD) | exact HB.out)⟩
   rw [if_pos c2] at H
   replace c2 := decide_eq_true c2
   obtain ⟨c3, H⟩ := ifd_ H
   obtain ⟨c4, H⟩ := ifd_ H
   obtain ⟨y233, hy233⟩ : ∃ y_ : List (S76), y_ = (([] : List (S76))) := ⟨_, rfl⟩
   replace H : (if y233.length + ((rd_T64 l0 x8_1).f1).length < 17592186044416 then (if x3_1.length < 4398046511104 then (dragomanref11_CopyComms.l0 k1 (x3_1 ++ [(⟨(rd_T64 l0 x8_1).f0, (y233 ++ ((rd_T64 l0 x8_1).f1))⟩ : S64)]) l0 (l0.length : Int) (wrap64 (x8_1 + 1))) else (none)) else (none)) = some r := by first | (rw [hy233]; with_reducible exact H) | (have H2_ := (Option.bind_some _ _).symm.trans H; rw [hy233]; with_reducible exact H2_) | (have H2_ := (Option.bind_some _ _).symm.trans H; with_reducible exact H2_) | with_reducible exact H | (rw [hy233]; exact H) | exact H
   have Ny233 := aM hy233
   clear hy233
   have c5 := ifn_ H
   rw [if_pos c5] at H
   have LMc5 := aM c5
   clear c5
   obtain ⟨y236, hy236⟩ : ∃ y_ : List (S76), y_ = (y233 ++ ((rd_T64 l0 x8_1).f1)) := ⟨_, rfl⟩
   replace H : (if x3_1.length < 4398046511104 then (dragomanref11_CopyComms.l0 k1 (x3_1 ++ [(⟨(rd_T64 l0 x8_1).f0, y236⟩ : S64)]) l0 (l0.length : Int) (wrap64 (x8_1 + 1))) else (none)) = some r := by first | (rw [hy236]; with_reducible exact H) | (have H2_ := (Option.bind_some _ _).symm.trans H; rw [hy236]; with_reducible exact H2_) | (have H2_ := (Option.bind_some _ _).symm.trans H; with_reducible exact H2_) | with_reducible exact H | (rw [hy236]; exact H) | exact H
   have Ny236 := aM hy236
   clear hy236
   have c6 := ifn_ H
   rw [if_pos c6] at H
   have LMc6 := aM c6
   clear c6
   obtain ⟨y239, hy239⟩ : ∃ y_ : List (S64), y_ = (x3_1 ++ [(⟨(rd_T64 l0 x8_1).f0, y236⟩ : S64)]) := ⟨_, rfl⟩
   replace H : (dragomanref11_CopyComms.l0 k1 y239 l0 (l0.length : Int) (wrap64 (x8_1 + 1))) = some r := by first | (rw [hy239]; with_reducible exact H) | (have H2_ := (Option.bind_some _ _).symm.trans H; rw [hy239]; with_reducible exact H2_) | (have H2_ := (Option.bind_some _ _).symm.trans H; with_reducible exact H2_) | with_reducible exact H | (rw [hy239]; exact H) | exact H
   have Ny239 := aM hy239
   clear hy239
   have H' := aM H
   clear H
   have p231 : 0 ≤ (x8_1 : Int) := od_
   have q231 : x8_1 < (l0.length : Int) := od_
   obtain ⟨ad231, A231_1, c231_1, e231, hx231_0, hx231_1, hl231_1, hi231_1⟩ := at_T64 HR0.out x8_1 p231 q231
   cases e231
   replace hx231_0 := hx_ HB hx231_0
   replace hx231_1 := hx_ HB hx231_1
   have HR231_1 := aM hi231_1
   have HC231_1 := aM hl231_1
   clear hi231_1 hl231_1
   replace p231 := eq_true p231
   replace q231 := eq_true q231
   try go_wp2_with (first | ((with_reducible refine gd_ 5 rfl ?_); refine be_ #[.bool false, .slice none 0 0] 64 ?_; intro gb232 hg w7 BK232 hb; have GW232 := ge_ HB hg; have GE232 := ge_ HB hg; replace HO_3 := aM (Kd.S_below (Kd.S_elderB (us_ HO_3.out) gb232 (Nat.le_of_eq hg.symm)) hb); replace HB := bs_ HB hb; clear hb hg; obtain ⟨hcz8_0, hcz8_1, hfz8_0, hfz8_1⟩ := bc2_ BK232))
   have n0_ : Aside0 (Kd.S k64 64 ((w7.setCell ⟨gb232, 0, none⟩ (.bool ((rd_T64 l0 x8_1).f0))).setCell ⟨gb232, 1, none⟩ (.slice A231_1 ((rd_T64 l0 x8_1).f1).length c231_1)) w.heap.size (fun k_ => k_ ≠ gb232) u3 x3_1) := ⟨by (with_reducible repeat (first | apply Kd.S_alloc | apply Kd.S_drewN | apply Kd.S_drew)); exact Kd.S_mono (Kd.S_far (p := ⟨gb232, 1, none⟩) (Kd.S_far (p := ⟨gb232, 0, none⟩) (Kd.S_mono HO_3.out (fun k_ hk => (⟨hk, hk.2⟩ : _ ∧ k_ ≠ gb232))) (fun _ hk => hk.2) (.bool ((rd_T64 l0 x8_1).f0))) (fun _ hk => hk.2) (.slice A231_1 ((rd_T64 l0 x8_1).f1).length c231_1)) (fun _ hk => hk.1.2)⟩
   have n1_ : Aside0 (((w7.setCell ⟨gb232, 0, none⟩ (.bool ((rd_T64 l0 x8_1).f0))).setCell ⟨gb232, 1, none⟩ (.slice A231_1 ((rd_T64 l0 x8_1).f1).length c231_1)).heap[gb232]? = some (.cells #[.bool ((rd_T64 l0 x8_1).f0), .slice A231_1 ((rd_T64 l0 x8_1).f1).length c231_1] 64 (0, 0))) := ⟨by (with_reducible repeat (first | apply bkN | apply bkD | apply bkA)); refine blk_put (cs := #[.bool ((rd_T64 l0 x8_1).f0), .slice none 0 0]) ?_ 1 _ rfl; (with_reducible repeat (first | apply bkN | apply bkD | apply bkA)); refine blk_put (cs := #[.bool false, .slice none 0 0]) ?_ 0 _ rfl; (with_reducible repeat (first | apply bkN | apply bkD | apply bkA)); exact BK232.out⟩
   have n2_ : Aside0 (Below w.heap.size w ((w7.setCell ⟨gb232, 0, none⟩ (.bool ((rd_T64 l0 x8_1).f0))).setCell ⟨gb232, 1, none⟩ (.slice A231_1 ((rd_T64 l0 x8_1).f1).length c231_1))) := ⟨bw_ HB.out⟩
   (try clear HO_3)
   (try clear BK232)
   (try clear HB)
   generalize ((w7.setCell ⟨gb232, 0, none⟩ (.bool ((rd_T64 l0 x8_1).f0))).setCell ⟨gb232, 1, none⟩ (.slice A231_1 ((rd_T64 l0 x8_1).f1).length c231_1)) = w9 at n0_ n1_ n2_ ⊢
   have HO_3 := n0_
   have BK232 := n1_
   have HB := n2_
   clear n0_ n1_ n2_
   replace HO_3 := aM (Kd.S_drew HO_3.out)
   replace BK232 := aM (blk_drew BK232.out)
   replace HB := aM (below_drew1 HB.out)
   refine start_ (n := 11) (S := fun w' => w'.cell? ⟨gb232, 0, none⟩ = some (.bool ((rd_T64 l0 x8_1).f0)) ∧ w'.cell? ⟨gb232, 1, none⟩ = some (.slice A231_1 ((rd_T64 l0 x8_1).f1).length c231_1)) (ds := []) (tf 0 11) (by kernel_rfl) rfl rfl (bd2_ BK232) (fun hHeld => ?_); refine with_tabW dragomanref11_CopyComms.tab5 dragomanref11_CopyComms.bits5 (fun HT_ HW_ => ?_)
   generalize w9.drew = w10 at HO_3 BK232 HB hHeld ⊢
   refine pA_ 0 (some 12) ?_
   refine pA_ 1 (some 13) ?_
   refine pA_ 4 (some 16) ?_
   refine pT_ 2 (some 14) hHeld ?_
   refine pT_ 5 (some 17) hHeld ?_
   refine pO_ 3 (some 15) (fun K hK => ?_)
   refine Kd.R_lit_step k76 _ 76 ?hg (N := 15) ?hd (xs := ([] : List (S76))) (inner := []) (ok := fun _ => True) (okp := fun _ => True) ?hr ?hp (fun _ hk => hk) trivial (Below.refl _ _) (Nat.le_refl _) (by simp) ?_; (case hd => rfl); (case hg => rfl); (case hr => first | (go_simp; done) | (go_simp; rfl)); (case hp => exact (Reps.none _ _))
   intro v234 w11 ho12 hb hg_ hnew_
   clear hg_ hnew_
   (first | rw [← Ny233.out] at ho12 | (simp only [Int.reduceToNat] at ho12; rw [← Ny233.out] at ho12))
   have HO235 := aM (Kd.R_lower ho12 (below_size (bw_ HB.out)))
   replace HO_3 := aM (Kd.S_elder' (us_ HO_3.out) (Kd.R_base ho12) hb)
   replace BK232 := bb_ BK232 hb
   replace HB := bs_ HB hb
   clear hb ho12
   refine hK.out _ _ (bd2_ BK232) (fun hHeld => ?_)
   clear hK K
   refine nO_ (some 15) ?_
   refine pO_ 6 (some 18) (fun K hK => ?_)
   refine Kd.R_append_rows_step k76 (w0 := w) w.heap.size (by rfl) (.tmp 15) (.tmp 17) 62 76 (.agg #[(.int .u32 0), (.int .u32 0)]) 8 rfl Try.underlying62 info76 rfl (by decide) (by omega) v234 y233 ((rd_T64 l0 x8_1).f1) _ _ _ (fun _ => True) (fun _ => False) rfl rfl ?aO ?aR (fun _ _ h => h) (fun _ h => h.elim) ?aF ?aB ?aS ?aL ?_
   (case aR => exact cB_ HR231_1 HB)
   (case aB => exact (bw_ HB.out))
   (case aF => exact (fun _ _ => trivial))
   (case aO => exact (uk_ HO235.out))
   (case aS => exact (below_size (bw_ HB.out)))
   (case aL => have := LMc5.out; omega)
   intro v237 w13 ho hb hg hat
   rw [← Ny236.out] at ho
   have HO238 := aM ho
   replace HO_3 := aM (Kd.S_after (ok := (fun k_ => k_ ≠ gb232)) (us_ HO_3.out) hg hat)
   replace BK232 := aM (blk_grown (g := gb232) (o := .cells #[.bool ((rd_T64 l0 x8_1).f0), .slice A231_1 ((rd_T64 l0 x8_1).f1).length c231_1] 64 (0, 0)) (ub_ BK232.out) hg (Kd.R_ne HO235.out BK232.out (by decide)))
   replace HB := aM hb
   clear HO235
   clear ho hb hg hat
   obtain ⟨Ao14, co14, eo14⟩ := Kd.R_slice HO238.out
   (first | subst eo14 | (injection eo14 with f1_ f2_ f3_; have f4_ := f1_.symm; have f5_ := f3_.symm; clear f1_ f2_ f3_; subst f4_; subst f5_))
   refine hK.out _ _ (bd2_ BK232) (fun hHeld => ?_)
   clear hK K
   refine nO_ (some 18) ?_
   refine pA_ 7 (some 19) ?_
   refine pO_ 8 (some 20) (fun K hK => ?_)
   refine value_ (w1 := ?_) (v := ?_) (by rfl) rfl ?_ ?_
   rotate_left 2
   · go_simp
     constructor
     · rfl
     · rfl
   refine hK.out _ _ ⟨(blk_cell (blk_alloc BK232.out _) 0).trans rfl, (blk_cell (blk_alloc BK232.out _) 1).trans rfl⟩ (fun hHeld => ?_)
   clear hK K
   refine nO_ (some 20) ?_
   refine pO_ 9 (some 21) (fun K hK => ?_)
   refine Kd.S_append_step k64 (w0 := w) w.heap.size (by rfl) (.tmp 12) (.tmp 20) 44 64 (.agg #[(.bool false), (.slice none 0 0)]) 32 rfl Try.underlying44 info64 rfl (by decide) (by omega) u3 x3_1 (⟨(rd_T64 l0 x8_1).f0, y236⟩ : S64) [.bool ((rd_T64 l0 x8_1).f0), .slice Ao14 y236.length co14] (fun k_ => k_ ≠ gb232) (fun k_ => some k_ = (.slice Ao14 y236.length co14 : Value).ownBlock) rfl rfl ?aP (fun k_ hk_ => ((Kd.R_mono (ok' := fun k_ => ((fun k_ => k_ ≠ gb232)) k_ ∧ some k_ ≠ (u3 : Value).ownBlock) (Kd.R_types (Kd.R_apart' (HO238.out) (Kd.S_typed HO_3.out) (by decide)) BK232.out (by decide)) (fun k_ hk => ⟨hk.2, hk.1.2⟩))).1 k_ hk_.symm) ?aF ?aO ?aB ?aS ?aL ?_
   (case aP => exact k64_mkM _ _ _ (⟨(rd_T64 l0 x8_1).f0, y236⟩ : S64) (Kd.R_mono (Kd.R_tight rfl (Kd.R_mono (ok' := fun k_ => ((fun k_ => k_ ≠ gb232)) k_ ∧ some k_ ≠ (u3 : Value).ownBlock) (Kd.R_types (Kd.R_apart' (HO238.out) (Kd.S_typed HO_3.out) (by decide)) BK232.out (by decide)) (fun k_ hk => ⟨hk.2, hk.1.2⟩))) (fun _ h_ => h_)))
   (case aB => exact (bw_ HB.out))
   (case aF => exact (fun k_ hk => Kd.freshB (g := gb232) (o := .cells #[.bool ((rd_T64 l0 x8_1).f0), .slice A231_1 ((rd_T64 l0 x8_1).f1).length c231_1] 64 (0, 0)) (ub_ BK232.out) k_ hk))
   (case aO => exact (by (with_reducible repeat (first | apply Kd.S_alloc | apply Kd.S_drewN | apply Kd.S_drew)); exact Kd.S_mono HO_3.out (fun k_ hk => ⟨hk.1, fun e_ => hk.2 e_⟩)))
   (case aS => exact (below_size (bw_ HB.out)))
   (case aL => have := LMc6.out; omega)
   intro v240 w15 ho hb hg hat
   rw [← Ny239.out] at ho
   have HO241 := aM ho
   replace BK232 := aM (blk_grown (g := gb232) (o := .cells #[.bool ((rd_T64 l0 x8_1).f0), .slice A231_1 ((rd_T64 l0 x8_1).f1).length c231_1] 64 (0, 0)) (ub_ BK232.out) hg (Kd.S_away HO_3.out (fun _ hk => hk.1)))
   replace HB := aM hb
   clear HO_3
   clear HO238
   clear ho hb hg hat
   refine hK.out _ _ (bd2_ BK232) (fun hHeld => ?_)
   clear hK K
   refine nO_ (some 21) ?_
   refine pA_ 10 (some 3) ?_
   refine done_ (done_of HT_.out (by kernel_rfl)) ?_
   try go_wp2
   go_roundg k1
   case measure => have := HK1.out; omega
   case rel => exact ⟨(y239), (wrap64 (x8_1 + 1)), rf_, H', ⟨by have := HK1.out; omega⟩, ⟨by (with_reducible repeat (first | apply Kd.S_alloc | apply Kd.S_drewN | apply Kd.S_drew)); exact Kd.S_mono HO241.out (fun _ hk => trivial)⟩, ⟨bw_ HB.out⟩⟩
end Go.Proofs.Ytlkjfjlmjgkheaa.H
namespace Go.Proofs.Ytlkjfjlmjgkheaa.H
open Go.RowKit Go.Proofs.YtlkjfjlmjgkheaaW.PrintWords Go.Proofs.YtlkjfjlmjgkheaaW.PrintLast Go.Proofs.YtlkjfjlmjgkheaaW.PrintMore
attribute [local go_sem] max2_int min2_int max_two min_two max_three min_three max_four min_four
set_option linter.unusedVariables false
set_option linter.unusedSimpArgs false
def dragomanref11_Copy.l0 : Nat → List (S61) → Int → Int → Int → List (S83) → List (S61) → List (S64) → Int → Int → Option (Int × (List (S83)) × (List (S61)) × (List (S64)) × Int × Int)
 | 0, _, _, _, _, _, _, _, _, _ => none
 | k + 1, x21, x22, x23, x254000, x254001, x254002, x254003, x254004, x254005 => if x23 < x22 then (if 0 ≤ x23 then (if x23 < (x21.length : Int) then ((r5_Copy.f k ((rd_T61 x21 x23).f1.f0) ((rd_T61 x21 x23).f1.f1) ((rd_T61 x21 x23).f1.f2)).bind fun bt256 => (if x254002.length < 2199023255552 then (dragomanref11_Copy.l0 k x21 x22 (wrap64 (x23 + 1)) x254000 x254001 (x254002 ++ [(⟨(rd_T61 x21 x23).f0, (⟨bt256.1, bt256.2.1, bt256.2.2⟩ : S25)⟩ : S61)]) x254003 x254004 x254005) else (none))) else (none)) else (none)) else (some (x254000, x254001, x254002, x254003, x254004, x254005))
def dragomanref11_Copy.f (k : Nat) (a0_0 : Int) (l0_1 : List (S83)) (l0_2 : List (S61)) (l0_3 : List (S64)) (a0_4 : Int) (a0_5 : Int) : Option (Int × (List (S83)) × (List (S61)) × (List (S64)) × Int × Int) := (some (([] : List (S83)) : List (S83))).bind fun y244 => (if y244.length + l0_1.length < 3518437208883 then ((dragomanref11_CopyComms.f k l0_3).bind fun t250 => (dragomanref11_Copy.l0 k l0_2 (l0_2.length : Int) 0 a0_0 (y244 ++ l0_1) ([] : List (S61)) t250 a0_4 a0_5)) else (none))
def dragomanref11_Copy.T1 : Bool × List (List Nat × List Nat) := (true, [([], []), ([0], [0]), ([], []), ([2], [2]), ([], []), ([4], [4]), ([], []), ([], []), ([7], [7]), ([6, 8], [6, 8]), ([], []), ([10], [10]), ([11, 9], [11]), ([1, 3, 5, 9, 12], [1, 3, 5, 9, 12]), ([], []), ([14, 13, 12, 0, 1, 2, 3, 4, 5, 6, 7, 8, 9, 10, 11, 12, 13, 14], [13, 14])])
def dragomanref11_Copy.B1 : List Nat := [0, 1, 0, 4, 0, 16, 0, 0, 128, 448, 0, 1024, 4032, 8191, 0, 32767]
theorem dragomanref11_Copy.tab1 : rtab .any (opsOf Try.f30 1) = dragomanref11_Copy.T1 := by kernel_rfl
theorem dragomanref11_Copy.bits1 : waitsOk dragomanref11_Copy.T1.2 dragomanref11_Copy.B1 = true := by kernel_rfl
def dragomanref11_Copy.T5 : Bool × List (List Nat × List Nat) := (true, [([], []), ([0], [0]), ([], []), ([2], [2]), ([], []), ([4], [4]), ([5], [5]), ([3, 6], [3, 6]), ([7], [7]), ([1, 8, 6], [1, 8]), ([0, 1, 2, 3, 4, 5, 6, 7, 8, 9], []), ([10, 9, 9, 0, 1, 2, 3, 4, 5, 6, 7, 8, 9], [9, 10])])
def dragomanref11_Copy.B5 : List Nat := [0, 1, 0, 4, 0, 16, 48, 124, 252, 511, 1023, 2047]
theorem dragomanref11_Copy.tab5 : rtab .any (opsOf Try.f30 5) = dragomanref11_Copy.T5 := by kernel_rfl
theorem dragomanref11_Copy.bits5 : waitsOk dragomanref11_Copy.T5.2 dragomanref11_Copy.B5 = true := by kernel_rfl
set_option maxHeartbeats 8000000 in
set_option maxRecDepth 100000 in
theorem dragomanref11_Copy.calls (k : Nat) (a0_0 : Int) (A0_1 : Option Addr) (c0_1 : Nat) (l0_1 : List (S83)) (A0_2 : Option Addr) (c0_2 : Nat) (l0_2 : List (S61)) (A0_3 : Option Addr) (c0_3 : Nat) (l0_3 : List (S64)) (a0_4 : Int) (a0_5 : Int) (r1 : Int) (r2 : List (S83)) (r3 : List (S61)) (r4 : List (S64)) (r5 : Int) (r6 : Int) (w : World) (hr0_1 : Kd.C k83 w A0_1 l0_1.length l0_1) (hc0_1 : l0_1.length ≤ c0_1) (hr0_2 : Kd.C k61 w A0_2 l0_2.length l0_2) (hc0_2 : l0_2.length ≤ c0_2) (hr0_3 : Kd.C k64 w A0_3 l0_3.length l0_3) (hc0_3 : l0_3.length ≤ c0_3) (h : dragomanref11_Copy.f k a0_0 l0_1 l0_2 l0_3 a0_4 a0_5 = some (r1, r2, r3, r4, r5, r6)) :
 Calls Try.prog 30 #[.agg #[.int .i64 a0_0, .slice A0_1 l0_1.length c0_1, .slice A0_2 l0_2.length c0_2, .slice A0_3 l0_3.length c0_3, .int .u32 a0_4, .int .u32 a0_5]] w fun e w' => ∃ v1_ v2_ v3_ : Value, e = .returned (.agg #[.int .i64 r1, v1_, v2_, v3_, .int .u32 r5, .int .u32 r6]) ∧ Kd.R k83 83 w' w.heap.size (fun _ => True) v1_ r2 ∧ Kd.R k61 61 w' w.heap.size (fun _ => True) v2_ r3 ∧ Kd.S k64 64 w' w.heap.size (fun _ => True) v3_ r4 ∧ Below w.heap.size w w' := by
 have hu46 := Try.underlying46
 have hu61 := Try.underlying61
 have hu25 := Try.underlying25
 have HR0_1 := aM hr0_1
 have HC0_1 := aM hc0_1
 clear hr0_1 hc0_1
 have HR0_2 := aM hr0_2
 have HC0_2 := aM hc0_2
 clear hr0_2 hc0_2
 have HR0_3 := aM hr0_3
 have HC0_3 := aM hc0_3
 clear hr0_3 hc0_3
 have HB := aM (Below.refl w.heap.size w)
 have H : ((some (([] : List (S83)) : List (S83))).bind fun y244 => (if y244.length + l0_1.length < 3518437208883 then ((dragomanref11_CopyComms.f k l0_3).bind fun t250 => (dragomanref11_Copy.l0 k l0_2 (l0_2.length : Int) 0 a0_0 (y244 ++ l0_1) ([] : List (S61)) t250 a0_4 a0_5)) else (none))) = some (r1, r2, r3, r4, r5, r6) := h
 clear h
 obtain ⟨y244, hy244⟩ : ∃ y_ : List (S83), y_ = (([] : List (S83))) := ⟨_, rfl⟩
 replace H : (if y244.length + l0_1.length < 3518437208883 then ((dragomanref11_CopyComms.f k l0_3).bind fun t250 => (dragomanref11_Copy.l0 k l0_2 (l0_2.length : Int) 0 a0_0 (y244 ++ l0_1) ([] : List (S61)) t250 a0_4 a0_5)) else (none)) = some (r1, r2, r3, r4, r5, r6) := by first | (rw [hy244]; with_reducible exact H) | (have H2_ := (Option.bind_some _ _).symm.trans H; rw [hy244]; with_reducible exact H2_) | (have H2_ := (Option.bind_some _ _).symm.trans H; with_reducible exact H2_) | with_reducible exact H | (rw [hy244]; exact H) | exact H
 have Ny244 := aM hy244
 clear hy244
 have c2 := ifn_ H
 rw [if_pos c2] at H
 have LMc2 := aM c2
 clear c2
 obtain ⟨y247, hy247⟩ : ∃ y_ : List (S83), y_ = (y244 ++ l0_1) := ⟨_, rfl⟩
 replace H : ((dragomanref11_CopyComms.f k l0_3).bind fun t250 => (dragomanref11_Copy.l0 k l0_2 (l0_2.length : Int) 0 a0_0 y247 ([] : List (S61)) t250 a0_4 a0_5)) = some (r1, r2, r3, r4, r5, r6) := by first | (rw [hy247]; with_reducible exact H) | (have H2_ := (Option.bind_some _ _).symm.trans H; rw [hy247]; with_reducible exact H2_) | (have H2_ := (Option.bind_some _ _).symm.trans H; with_reducible exact H2_) | with_reducible exact H | (rw [hy247]; exact H) | exact H
 have Ny247 := aM hy247
 clear hy247
 obtain ⟨t250, A3, H⟩ := bnd_ H
 have H' := aM H
 clear H
 go_enter Try.func30, Try.ntmps30
 try go_wp2_with (first | ((with_reducible refine gd_ 1 rfl ?_); refine be_ #[.int .i64 a0_0, .slice A0_1 l0_1.length c0_1, .slice A0_2 l0_2.length c0_2, .slice A0_3 l0_3.length c0_3, .int .u32 a0_4, .int .u32 a0_5] 46 ?_; intro gb242 hg w4 BK242 hb; have GW242 := ge_ HB hg; have GE242 := ge_ HB hg; replace HB := bs_ HB hb; clear hb hg) | ((with_reducible refine gd_ 2 rfl ?_); refine be_ #[.int .i64 0, .slice none 0 0, .slice none 0 0, .slice none 0 0, .int .u32 0, .int .u32 0] 46 ?_; intro gb243 hg w5 BK243 hb; have GW243 := ge_ HB hg; have GE243 := ge_ HB hg; have NB242_243 := nl_ BK242 hg; have NB243_242 := ng_ BK242 hg; replace BK242 := bb_ BK242 hb; replace HB := bs_ HB hb; clear hb hg))
 replace BK242 := aM (blk_drew BK242.out)
 replace BK243 := aM (blk_drew BK243.out)
 replace HB := aM (below_drew1 HB.out)
 refine start_ (n := 16) (S := fun w' => w'.cell? ⟨gb242, 0, none⟩ = some (.int .i64 a0_0) ∧ w'.cell? ⟨gb242, 1, none⟩ = some (.slice A0_1 l0_1.length c0_1) ∧ w'.cell? ⟨gb242, 2, none⟩ = some (.slice A0_2 l0_2.length c0_2) ∧ w'.cell? ⟨gb242, 3, none⟩ = some (.slice A0_3 l0_3.length c0_3) ∧ w'.cell? ⟨gb242, 4, none⟩ = some (.int .u32 a0_4) ∧ w'.cell? ⟨gb242, 5, none⟩ = some (.int .u32 a0_5)) (ds := []) (tf 0 16) (by kernel_rfl) rfl rfl (bd6_ BK242) (fun hHeld => ?_); refine with_tabW dragomanref11_Copy.tab1 dragomanref11_Copy.bits1 (fun HT_ HW_ => ?_)
 generalize w5.drew = w6 at BK242 BK243 HB hHeld ⊢
 refine pA_ 0 (some 6) ?_
 refine pA_ 2 (some 8) ?_
 refine pA_ 4 (some 10) ?_
 refine pA_ 7 (some 13) ?_
 refine pA_ 10 (some 16) ?_
 refine pT_ 1 (some 7) hHeld ?_
 refine pT_ 3 (some 9) hHeld ?_
 refine pT_ 5 (some 11) hHeld ?_
 refine pT_ 8 (some 14) hHeld ?_
 refine pT_ 11 (some 17) hHeld ?_
 refine join_ (σ := Value × Value × Value × Nat) 1 (tf 15 1) (fun s_ => [(12, s_.1), (15, s_.2.1), (18, s_.2.2.1), (3, .pointer (some ⟨s_.2.2.2, 0, none⟩)), (19, .agg #[.int .i64 a0_0, s_.2.1, .slice none 0 0, s_.2.2.1, .int .u32 a0_4, .int .u32 a0_5])]) (fun s_ w' => (w'.cell? ⟨gb242, 0, none⟩ = some (.int .i64 a0_0) ∧ w'.cell? ⟨gb242, 1, none⟩ = some (.slice A0_1 l0_1.length c0_1) ∧ w'.cell? ⟨gb242, 2, none⟩ = some (.slice A0_2 l0_2.length c0_2) ∧ w'.cell? ⟨gb242, 3, none⟩ = some (.slice A0_3 l0_3.length c0_3) ∧ w'.cell? ⟨gb242, 4, none⟩ = some (.int .u32 a0_4) ∧ w'.cell? ⟨gb242, 5, none⟩ = some (.int .u32 a0_5)) ∧ (Kd.R k83 83 w' w.heap.size (fun _ => True) s_.2.1 y247) ∧ (Kd.S k64 64 w' w.heap.size (fun _ => True) s_.2.2.1 t250) ∧ (w'.heap[gb242]? = some (.cells #[.int .i64 a0_0, .slice A0_1 l0_1.length c0_1, .slice A0_2 l0_2.length c0_2, .slice A0_3 l0_3.length c0_3, .int .u32 a0_4, .int .u32 a0_5] 46 (0, 0))) ∧ (w'.heap[gb243]? = some (.cells #[.int .i64 0, .slice none 0 0, .slice none 0 0, .slice none 0 0, .int .u32 0, .int .u32 0] 46 (0, 0))) ∧ (w'.heap[s_.2.2.2]? = some (.cells #[.int .i64 0, .slice none 0 0, .slice none 0 0, .slice none 0 0, .int .u32 0, .int .u32 0] 46 (0, 0))) ∧ (w.heap.size ≤ s_.2.2.2) ∧ (w.heap.size ≤ s_.2.2.2) ∧ (gb242 ≠ s_.2.2.2) ∧ (s_.2.2.2 ≠ gb242) ∧ (gb243 ≠ s_.2.2.2) ∧ (s_.2.2.2 ≠ gb243) ∧ (Below w.heap.size w w')) ?_ ?_
 rotate_left
 · intro hCont
   refine two_ (i := 6) (j := 14) (Ni := some 12) (Nj := some 3) #[true, true, true, true, true, true, true, true, true, false, true, true, false, false, false, false] #[true, true, true, true, true, true, false, true, true, false, true, true, false, false, true, false] rfl rfl rfl rfl (two_of HT_.out (by kernel_rfl)) (by decide) (by decide) (fun K hK => ?_) (fun K hK => ?_)
   · skip
     refine Kd.R_lit_step k83 _ 83 ?hg (N := 12) ?hd (xs := ([] : List (S83))) (inner := []) (ok := fun _ => True) (okp := fun _ => True) ?hr ?hp (fun _ hk => hk) trivial (Below.refl _ _) (Nat.le_refl _) (by simp) ?_; (case hd => rfl); (case hg => rfl); (case hr => first | (go_simp; done) | (go_simp; rfl)); (case hp => exact (Reps.none _ _))
     intro v245 w7 ho8 hb hg_ hnew_
     clear hg_ hnew_
     (first | rw [← Ny244.out] at ho8 | (simp only [Int.reduceToNat] at ho8; rw [← Ny244.out] at ho8))
     have HO246 := aM (Kd.R_lower ho8 (below_size (bw_ HB.out)))
     replace BK242 := bb_ BK242 hb
     replace BK243 := bb_ BK243 hb
     replace HB := bs_ HB hb
     clear hb ho8
     refine hK.out _ _ (bd6_ BK242) (fun hHeld => ?_)
     clear hK K
     refine nO_ (some 12) ?_
     refine two_ (i := 9) (j := 14) (Ni := some 15) (Nj := some 3) (tf 12 4) #[true, true, true, true, true, true, true, true, true, false, true, true, false, false, true, false] rfl rfl rfl rfl (two_of HT_.out (by kernel_rfl)) (by decide) (by decide) (fun K hK => ?_) (fun K hK => ?_)
     · skip
       refine Kd.R_append_rows_step k83 (w0 := w) w.heap.size (by rfl) (.tmp 12) (.tmp 14) 42 83 (.agg #[(.bool false), (.int .u32 0), (.int .i64 0), (.int .i64 0), (.int .i64 0)]) 40 rfl Try.underlying42 info83 rfl (by decide) (by omega) v245 y244 l0_1 _ _ _ (fun _ => True) (fun _ => False) rfl rfl ?aO ?aR (fun _ _ h => h) (fun _ h => h.elim) ?aF ?aB ?aS ?aL ?_
       (case aR => exact cB_ HR0_1 HB)
       (case aB => exact (bw_ HB.out))
       (case aF => exact (fun _ _ => trivial))
       (case aO => exact (uk_ HO246.out))
       (case aS => exact (below_size (bw_ HB.out)))
       (case aL => have := LMc2.out; omega)
       intro v248 w9 ho hb hg hat
       rw [← Ny247.out] at ho
       have HO249 := aM ho
       replace BK242 := aM (blk_grown (g := gb242) (o := .cells #[.int .i64 a0_0, .slice A0_1 l0_1.length c0_1, .slice A0_2 l0_2.length c0_2, .slice A0_3 l0_3.length c0_3, .int .u32 a0_4, .int .u32 a0_5] 46 (0, 0)) (ub_ BK242.out) hg (Kd.R_ne HO246.out BK242.out (by decide)))
       replace BK243 := aM (blk_grown (g := gb243) (o := .cells #[.int .i64 0, .slice none 0 0, .slice none 0 0, .slice none 0 0, .int .u32 0, .int .u32 0] 46 (0, 0)) (ub_ BK243.out) hg (Kd.R_ne HO246.out BK243.out (by decide)))
       replace HB := aM hb
       clear HO246
       clear ho hb hg hat
       refine hK.out _ _ (bd6_ BK242) (fun hHeld => ?_)
       clear hK K
       refine nO_ (some 15) ?_
       refine two_ (i := 12) (j := 14) (Ni := some 18) (Nj := some 3) (tf 13 3) #[true, true, true, true, true, true, true, true, true, true, true, true, false, false, true, false] rfl rfl rfl rfl (two_of HT_.out (by kernel_rfl)) (by decide) (by decide) (fun K hK => ?_) (fun K hK => ?_)
       · skip
         refine gO_ Try.func52 #[.slice A0_3 l0_3.length c0_3] rfl rfl ?_
         with_reducible refine (dragomanref11_CopyComms.calls k _ _ l0_3 t250 _ ?side1 ?side2 A3.out).mono ?_
         (case side1 => exact cB_ HR0_3 HB)
         (case side2 => exact HC0_3.out)
         rintro e w10 ⟨v251, rfl, ho0, hb⟩
         refine ⟨_, rfl, ?_⟩
         have HO252 := aM (Kd.S_lower ho0 (below_size (bw_ HB.out)))
         replace HO249 := aM (Kd.R_below (uk_ HO249.out) hb)
         replace BK242 := bb_ BK242 hb
         replace BK243 := bb_ BK243 hb
         replace HB := bs_ HB hb
         (try clear hb)
         (try clear hb2)
         (try clear hk)
         (try clear hi)
         (try clear ho0)
         obtain ⟨Ao11, co11, eo11⟩ := Kd.S_slice HO252.out
         (first | subst eo11 | (injection eo11 with f1_ f2_ f3_; have f4_ := f1_.symm; have f5_ := f3_.symm; clear f1_ f2_ f3_; subst f4_; subst f5_))
         obtain ⟨Ao12, co12, eo12⟩ := Kd.R_slice HO249.out
         (first | subst eo12 | (injection eo12 with f1_ f2_ f3_; have f4_ := f1_.symm; have f5_ := f3_.symm; clear f1_ f2_ f3_; subst f4_; subst f5_))
         refine hK.out _ _ (bd6_ BK242) (fun hHeld => ?_)
         clear hK K
         refine nO_ (some 18) ?_
         refine pA_ 13 (some 19) ?_
         refine pO_ 14 (some 3) (fun K hK => ?_)
         refine box_step ?hg (N := 3) ?hd (cs := #[.int .i64 0, .slice none 0 0, .slice none 0 0, .slice none 0 0, .int .u32 0, .int .u32 0]) (t := 46) ?hr ?_; (case hd => rfl); (case hg => rfl); (case hr => first | (go_simp; done) | (go_simp; rfl))
         intro gb253 hg w13 hbox hb
         have BK253 := aM hbox
         have GW253 := ge_ HB hg
         have GE253 := ge_ HB hg
         have NB242_253 := nl_ BK242 hg
         have NB253_242 := ng_ BK242 hg
         have NB243_253 := nl_ BK243 hg
         have NB253_243 := ng_ BK243 hg
         replace HO249 := aM (Kd.R_below (uk_ HO249.out) hb)
         replace HO252 := aM (Kd.S_below (us_ HO252.out) hb)
         replace BK242 := bb_ BK242 hb
         replace BK243 := bb_ BK243 hb
         replace HB := bs_ HB hb
         clear hb hbox hg
         refine hK.out _ _ (bd6_ BK242) (fun hHeld => ?_)
         clear hK K
         refine nO_ (some 3) ?_
         exact norm_ (by simp only [putAll, Act.put, sT, sZ, sS]) (hCont (v245, .slice Ao12 y247.length co12, .slice Ao11 t250.length co11, gb253) _ ⟨hHeld, (uk_ HO249.out), (us_ HO252.out), (ub_ BK242.out), (ub_ BK243.out), (ub_ BK253.out), GW253.out, GE253.out, NB242_253.out, NB253_242.out, NB243_253.out, NB253_243.out, (bw_ HB.out)⟩)
       · skip
         refine box_step ?hg (N := 3) ?hd (cs := #[.int .i64 0, .slice none 0 0, .slice none 0 0, .slice none 0 0, .int .u32 0, .int .u32 0]) (t := 46) ?hr ?_; (case hd => rfl); (case hg => rfl); (case hr => first | (go_simp; done) | (go_simp; rfl))
         intro gb253 hg w10 hbox hb
         have BK253 := aM hbox
         have GW253 := ge_ HB hg
         have GE253 := ge_ HB hg
         have NB242_253 := nl_ BK242 hg
         have NB253_242 := ng_ BK242 hg
         have NB243_253 := nl_ BK243 hg
         have NB253_243 := ng_ BK243 hg
         replace HO249 := aM (Kd.R_below (uk_ HO249.out) hb)
         replace BK242 := bb_ BK242 hb
         replace BK243 := bb_ BK243 hb
         replace HB := bs_ HB hb
         clear hb hbox hg
         refine hK.out _ _ (bd6_ BK242) (fun hHeld => ?_)
         clear hK K
         refine nO_ (some 3) ?_
         refine pO_ 12 (some 18) (fun K hK => ?_)
         refine gO_ Try.func52 #[.slice A0_3 l0_3.length c0_3] rfl rfl ?_
         with_reducible refine (dragomanref11_CopyComms.calls k _ _ l0_3 t250 _ ?side1 ?side2 A3.out).mono ?_
         (case side1 => exact cB_ HR0_3 HB)
         (case side2 => exact HC0_3.out)
         rintro e w11 ⟨v251, rfl, ho0, hb⟩
         refine ⟨_, rfl, ?_⟩
         have HO252 := aM (Kd.S_lower ho0 (below_size (bw_ HB.out)))
         replace HO249 := aM (Kd.R_below (uk_ HO249.out) hb)
         replace BK242 := bb_ BK242 hb
         replace BK243 := bb_ BK243 hb
         replace BK253 := bb_ BK253 hb
         replace HB := bs_ HB hb
         (try clear hb)
         (try clear hb2)
         (try clear hk)
         (try clear hi)
         (try clear ho0)
         obtain ⟨Ao12, co12, eo12⟩ := Kd.S_slice HO252.out
         (first | subst eo12 | (injection eo12 with f1_ f2_ f3_; have f4_ := f1_.symm; have f5_ := f3_.symm; clear f1_ f2_ f3_; subst f4_; subst f5_))
         obtain ⟨Ao13, co13, eo13⟩ := Kd.R_slice HO249.out
         (first | subst eo13 | (injection eo13 with f1_ f2_ f3_; have f4_ := f1_.symm; have f5_ := f3_.symm; clear f1_ f2_ f3_; subst f4_; subst f5_))
         refine hK.out _ _ (bd6_ BK242) (fun hHeld => ?_)
         clear hK K
         refine nO_ (some 18) ?_
         refine pA_ 13 (some 19) ?_
         exact norm_ (by simp only [putAll, Act.put, sT, sZ, sS]) (hCont (v245, .slice Ao13 y247.length co13, .slice Ao12 t250.length co12, gb253) _ ⟨hHeld, (uk_ HO249.out), (us_ HO252.out), (ub_ BK242.out), (ub_ BK243.out), (ub_ BK253.out), GW253.out, GE253.out, NB242_253.out, NB253_242.out, NB243_253.out, NB253_243.out, (bw_ HB.out)⟩)
     · skip
       refine box_step ?hg (N := 3) ?hd (cs := #[.int .i64 0, .slice none 0 0, .slice none 0 0, .slice none 0 0, .int .u32 0, .int .u32 0]) (t := 46) ?hr ?_; (case hd => rfl); (case hg => rfl); (case hr => first | (go_simp; done) | (go_simp; rfl))
       intro gb253 hg w9 hbox hb
       have BK253 := aM hbox
       have GW253 := ge_ HB hg
       have GE253 := ge_ HB hg
       have NB242_253 := nl_ BK242 hg
       have NB253_242 := ng_ BK242 hg
       have NB243_253 := nl_ BK243 hg
       have NB253_243 := ng_ BK243 hg
       replace HO246 := aM (Kd.R_below (uk_ HO246.out) hb)
       replace BK242 := bb_ BK242 hb
       replace BK243 := bb_ BK243 hb
       replace HB := bs_ HB hb
       clear hb hbox hg
       refine hK.out _ _ (bd6_ BK242) (fun hHeld => ?_)
       clear hK K
       refine nO_ (some 3) ?_
       refine pO_ 9 (some 15) (fun K hK => ?_)
       refine Kd.R_append_rows_step k83 (w0 := w) w.heap.size (by rfl) (.tmp 12) (.tmp 14) 42 83 (.agg #[(.bool false), (.int .u32 0), (.int .i64 0), (.int .i64 0), (.int .i64 0)]) 40 rfl Try.underlying42 info83 rfl (by decide) (by omega) v245 y244 l0_1 _ _ _ (fun _ => True) (fun _ => False) rfl rfl ?aO ?aR (fun _ _ h => h) (fun _ h => h.elim) ?aF ?aB ?aS ?aL ?_
       (case aR => exact cB_ HR0_1 HB)
       (case aB => exact (bw_ HB.out))
       (case aF => exact (fun _ _ => trivial))
       (case aO => exact (uk_ HO246.out))
       (case aS => exact (below_size (bw_ HB.out)))
       (case aL => have := LMc2.out; omega)
       intro v248 w10 ho hb hg hat
       rw [← Ny247.out] at ho
       have HO249 := aM ho
       replace BK242 := aM (blk_grown (g := gb242) (o := .cells #[.int .i64 a0_0, .slice A0_1 l0_1.length c0_1, .slice A0_2 l0_2.length c0_2, .slice A0_3 l0_3.length c0_3, .int .u32 a0_4, .int .u32 a0_5] 46 (0, 0)) (ub_ BK242.out) hg (Kd.R_ne HO246.out BK242.out (by decide)))
       replace BK243 := aM (blk_grown (g := gb243) (o := .cells #[.int .i64 0, .slice none 0 0, .slice none 0 0, .slice none 0 0, .int .u32 0, .int .u32 0] 46 (0, 0)) (ub_ BK243.out) hg (Kd.R_ne HO246.out BK243.out (by decide)))
       replace BK253 := aM (blk_grown (g := gb253) (o := .cells #[.int .i64 0, .slice none 0 0, .slice none 0 0, .slice none 0 0, .int .u32 0, .int .u32 0] 46 (0, 0)) (ub_ BK253.out) hg (Kd.R_ne HO246.out BK253.out (by decide)))
       replace HB := aM hb
       clear HO246
       clear ho hb hg hat
       refine hK.out _ _ (bd6_ BK242) (fun hHeld => ?_)
       clear hK K
       refine nO_ (some 15) ?_
       refine pO_ 12 (some 18) (fun K hK => ?_)
       refine gO_ Try.func52 #[.slice A0_3 l0_3.length c0_3] rfl rfl ?_
       with_reducible refine (dragomanref11_CopyComms.calls k _ _ l0_3 t250 _ ?side1 ?side2 A3.out).mono ?_
       (case side1 => exact cB_ HR0_3 HB)
       (case side2 => exact HC0_3.out)
       rintro e w11 ⟨v251, rfl, ho0, hb⟩
       refine ⟨_, rfl, ?_⟩
       have HO252 := aM (Kd.S_lower ho0 (below_size (bw_ HB.out)))
       replace HO249 := aM (Kd.R_below (uk_ HO249.out) hb)
       replace BK242 := bb_ BK242 hb
       replace BK243 := bb_ BK243 hb
       replace BK253 := bb_ BK253 hb
       replace HB := bs_ HB hb
       (try clear hb)
       (try clear hb2)
       (try clear hk)
       (try clear hi)
       (try clear ho0)
       obtain ⟨Ao12, co12, eo12⟩ := Kd.S_slice HO252.out
       (first | subst eo12 | (injection eo12 with f1_ f2_ f3_; have f4_ := f1_.symm; have f5_ := f3_.symm; clear f1_ f2_ f3_; subst f4_; subst f5_))
       obtain ⟨Ao13, co13, eo13⟩ := Kd.R_slice HO249.out
       (first | subst eo13 | (injection eo13 with f1_ f2_ f3_; have f4_ := f1_.symm; have f5_ := f3_.symm; clear f1_ f2_ f3_; subst f4_; subst f5_))
       refine hK.out _ _ (bd6_ BK242) (fun hHeld => ?_)
       clear hK K
       refine nO_ (some 18) ?_
       refine pA_ 13 (some 19) ?_
       exact norm_ (by simp only [putAll, Act.put, sT, sZ, sS]) (hCont (v245, .slice Ao13 y247.length co13, .slice Ao12 t250.length co12, gb253) _ ⟨hHeld, (uk_ HO249.out), (us_ HO252.out), (ub_ BK242.out), (ub_ BK243.out), (ub_ BK253.out), GW253.out, GE253.out, NB242_253.out, NB253_242.out, NB243_253.out, NB253_243.out, (bw_ HB.out)⟩)
   · skip
     refine box_step ?hg (N := 3) ?hd (cs := #[.int .i64 0, .slice none 0 0, .slice none 0 0, .slice none 0 0, .int .u32 0, .int .u32 0]) (t := 46) ?hr ?_; (case hd => rfl); (case hg => rfl); (case hr => first | (go_simp; done) | (go_simp; rfl))
     intro gb253 hg w7 hbox hb
     have BK253 := aM hbox
     have GW253 := ge_ HB hg
     have GE253 := ge_ HB hg
     have NB242_253 := nl_ BK242 hg
     have NB253_242 := ng_ BK242 hg
     have NB243_253 := nl_ BK243 hg
     have NB253_243 := ng_ BK243 hg
     replace BK242 := bb_ BK242 hb
     replace BK243 := bb_ BK243 hb
     replace HB := bs_ HB hb
     clear hb hbox hg
     refine hK.out _ _ (bd6_ BK242) (fun hHeld => ?_)
     clear hK K
     refine nO_ (some 3) ?_
     refine pO_ 6 (some 12) (fun K hK => ?_)
     refine Kd.R_lit_step k83 _ 83 ?hg (N := 12) ?hd (xs := ([] : List (S83))) (inner := []) (ok := fun _ => True) (okp := fun _ => True) ?hr ?hp (fun _ hk => hk) trivial (Below.refl _ _) (Nat.le_refl _) (by simp) ?_; (case hd => rfl); (case hg => rfl); (case hr => first | (go_simp; done) | (go_simp; rfl)); (case hp => exact (Reps.none _ _))
     intro v245 w8 ho9 hb hg_ hnew_
     clear hg_ hnew_
     (first | rw [← Ny244.out] at ho9 | (simp only [Int.reduceToNat] at ho9; rw [← Ny244.out] at ho9))
     have HO246 := aM (Kd.R_lower ho9 (below_size (bw_ HB.out)))
     replace BK242 := bb_ BK242 hb
     replace BK243 := bb_ BK243 hb
     replace BK253 := bb_ BK253 hb
     replace HB := bs_ HB hb
     clear hb ho9
     refine hK.out _ _ (bd6_ BK242) (fun hHeld => ?_)
     clear hK K
     refine nO_ (some 12) ?_
     refine pO_ 9 (some 15) (fun K hK => ?_)
     refine Kd.R_append_rows_step k83 (w0 := w) w.heap.size (by rfl) (.tmp 12) (.tmp 14) 42 83 (.agg #[(.bool false), (.int .u32 0), (.int .i64 0), (.int .i64 0), (.int .i64 0)]) 40 rfl Try.underlying42 info83 rfl (by decide) (by omega) v245 y244 l0_1 _ _ _ (fun _ => True) (fun _ => False) rfl rfl ?aO ?aR (fun _ _ h => h) (fun _ h => h.elim) ?aF ?aB ?aS ?aL ?_
     (case aR => exact cB_ HR0_1 HB)
     (case aB => exact (bw_ HB.out))
     (case aF => exact (fun _ _ => trivial))
     (case aO => exact (uk_ HO246.out))
     (case aS => exact (below_size (bw_ HB.out)))
     (case aL => have := LMc2.out; omega)
     intro v248 w10 ho hb hg hat
     rw [← Ny247.out] at ho
     have HO249 := aM ho
     replace BK242 := aM (blk_grown (g := gb242) (o := .cells #[.int .i64 a0_0, .slice A0_1 l0_1.length c0_1, .slice A0_2 l0_2.length c0_2, .slice A0_3 l0_3.length c0_3, .int .u32 a0_4, .int .u32 a0_5] 46 (0, 0)) (ub_ BK242.out) hg (Kd.R_ne HO246.out BK242.out (by decide)))
     replace BK243 := aM (blk_grown (g := gb243) (o := .cells #[.int .i64 0, .slice none 0 0, .slice none 0 0, .slice none 0 0, .int .u32 0, .int .u32 0] 46 (0, 0)) (ub_ BK243.out) hg (Kd.R_ne HO246.out BK243.out (by decide)))
     replace BK253 := aM (blk_grown (g := gb253) (o := .cells #[.int .i64 0, .slice none 0 0, .slice none 0 0, .slice none 0 0, .int .u32 0, .int .u32 0] 46 (0, 0)) (ub_ BK253.out) hg (Kd.R_ne HO246.out BK253.out (by decide)))
     replace HB := aM hb
     clear HO246
     clear ho hb hg hat
     refine hK.out _ _ (bd6_ BK242) (fun hHeld => ?_)
     clear hK K
     refine nO_ (some 15) ?_
     refine pO_ 12 (some 18) (fun K hK => ?_)
     refine gO_ Try.func52 #[.slice A0_3 l0_3.length c0_3] rfl rfl ?_
     with_reducible refine (dragomanref11_CopyComms.calls k _ _ l0_3 t250 _ ?side1 ?side2 A3.out).mono ?_
     (case side1 => exact cB_ HR0_3 HB)
     (case side2 => exact HC0_3.out)
     rintro e w11 ⟨v251, rfl, ho0, hb⟩
     refine ⟨_, rfl, ?_⟩
     have HO252 := aM (Kd.S_lower ho0 (below_size (bw_ HB.out)))
     replace HO249 := aM (Kd.R_below (uk_ HO249.out) hb)
     replace BK242 := bb_ BK242 hb
     replace BK243 := bb_ BK243 hb
     replace BK253 := bb_ BK253 hb
     replace HB := bs_ HB hb
     (try clear hb)
     (try clear hb2)
     (try clear hk)
     (try clear hi)
     (try clear ho0)
     obtain ⟨Ao12, co12, eo12⟩ := Kd.S_slice HO252.out
     (first | subst eo12 | (injection eo12 with f1_ f2_ f3_; have f4_ := f1_.symm; have f5_ := f3_.symm; clear f1_ f2_ f3_; subst f4_; subst f5_))
     obtain ⟨Ao13, co13, eo13⟩ := Kd.R_slice HO249.out
     (first | subst eo13 | (injection eo13 with f1_ f2_ f3_; have f4_ := f1_.symm; have f5_ := f3_.symm; clear f1_ f2_ f3_; subst f4_; subst f5_))
     refine hK.out _ _ (bd6_ BK242) (fun hHeld => ?_)
     clear hK K
     refine nO_ (some 18) ?_
     refine pA_ 13 (some 19) ?_
     exact norm_ (by simp only [putAll, Act.put, sT, sZ, sS]) (hCont (v245, .slice Ao13 y247.length co13, .slice Ao12 t250.length co12, gb253) _ ⟨hHeld, (uk_ HO249.out), (us_ HO252.out), (ub_ BK242.out), (ub_ BK243.out), (ub_ BK253.out), GW253.out, GE253.out, NB242_253.out, NB253_242.out, NB243_253.out, NB253_243.out, (bw_ HB.out)⟩)
 rintro ⟨v245, v248, v251, gb253⟩ w14 ⟨hS_, h0_, h1_, h2_, h3_, h4_, h5_, h6_, h7_, h8_, h9_, h10_, h11_⟩
 have n0_ : Aside0 (Kd.R k83 83 w14 w.heap.size (fun _ => True) v248 y247) := ⟨h0_⟩
 have n1_ : Aside0 (Kd.S k64 64 w14 w.heap.size (fun _ => True) v251 t250) := ⟨h1_⟩
 have n2_ : Aside0 (w14.heap[gb242]? = some (.cells #[.int .i64 a0_0, .slice A0_1 l0_1.length c0_1, .slice A0_2 l0_2.length c0_2, .slice A0_3 l0_3.length c0_3, .int .u32 a0_4, .int .u32 a0_5] 46 (0, 0))) := ⟨h2_⟩
 have n3_ : Aside0 (w14.heap[gb243]? = some (.cells #[.int .i64 0, .slice none 0 0, .slice none 0 0, .slice none 0 0, .int .u32 0, .int .u32 0] 46 (0, 0))) := ⟨h3_⟩
 have n4_ : Aside0 (w14.heap[gb253]? = some (.cells #[.int .i64 0, .slice none 0 0, .slice none 0 0, .slice none 0 0, .int .u32 0, .int .u32 0] 46 (0, 0))) := ⟨h4_⟩
 have n5_ : Aside0 (w.heap.size ≤ gb253) := ⟨h5_⟩
 have n6_ : Aside0 (w.heap.size ≤ gb253) := ⟨h6_⟩
 have n7_ : Aside0 (gb242 ≠ gb253) := ⟨h7_⟩
 have n8_ : Aside0 (gb253 ≠ gb242) := ⟨h8_⟩
 have n9_ : Aside0 (gb243 ≠ gb253) := ⟨h9_⟩
 have n10_ : Aside0 (gb253 ≠ gb243) := ⟨h10_⟩
 have n11_ : Aside0 (Below w.heap.size w w14) := ⟨h11_⟩
 clear BK242
 clear BK243
 clear HB
 clear h0_ h1_ h2_ h3_ h4_ h5_ h6_ h7_ h8_ h9_ h10_ h11_
 have HO249 := n0_
 have HO252 := n1_
 have BK242 := n2_
 have BK243 := n3_
 have BK253 := n4_
 have GW253 := n5_
 have GE253 := n6_
 have NB242_253 := n7_
 have NB253_242 := n8_
 have NB243_253 := n9_
 have NB253_243 := n10_
 have HB := n11_
 clear n0_ n1_ n2_ n3_ n4_ n5_ n6_ n7_ n8_ n9_ n10_ n11_
 have hHeld : w14.cell? ⟨gb242, 0, none⟩ = some (.int .i64 a0_0) ∧ w14.cell? ⟨gb242, 1, none⟩ = some (.slice A0_1 l0_1.length c0_1) ∧ w14.cell? ⟨gb242, 2, none⟩ = some (.slice A0_2 l0_2.length c0_2) ∧ w14.cell? ⟨gb242, 3, none⟩ = some (.slice A0_3 l0_3.length c0_3) ∧ w14.cell? ⟨gb242, 4, none⟩ = some (.int .u32 a0_4) ∧ w14.cell? ⟨gb242, 5, none⟩ = some (.int .u32 a0_5) := hS_
 obtain ⟨Ao15, co15, eo15⟩ := Kd.S_slice HO252.out
 (first | subst eo15 | (injection eo15 with f1_ f2_ f3_; have f4_ := f1_.symm; have f5_ := f3_.symm; clear f1_ f2_ f3_; subst f4_; subst f5_))
 obtain ⟨Ao16, co16, eo16⟩ := Kd.R_slice HO249.out
 (first | subst eo16 | (injection eo16 with f1_ f2_ f3_; have f4_ := f1_.symm; have f5_ := f3_.symm; clear f1_ f2_ f3_; subst f4_; subst f5_))
 refine norm_ (a' := ?_) ?_ ?_
 rotate_left
 · simp only [putAll, Act.put, sT, sZ, sS]
   rfl
 refine pO_ 15 none (fun K hK => ?_)
 have hs17 : w14.cell? ⟨gb253, 0, none⟩ = some (.int .i64 0) := (blk_cell BK253.out 0).trans rfl
 have hfs17 := bF BK253.out 0
 have hns17_0 := NB242_253.out
 have hns17_1 := NB243_253.out
 have hms17_0 := NB253_242.out
 have hms17_1 := NB253_243.out
 have hs18 : w14.cell? ⟨gb253, 1, none⟩ = some (.slice none 0 0) := (blk_cell BK253.out 1).trans rfl
 have hfs18 := bF BK253.out 1
 have hns18_0 := NB242_253.out
 have hns18_1 := NB243_253.out
 have hms18_0 := NB253_242.out
 have hms18_1 := NB253_243.out
 have hs19 : w14.cell? ⟨gb253, 2, none⟩ = some (.slice none 0 0) := (blk_cell BK253.out 2).trans rfl
 have hfs19 := bF BK253.out 2
 have hns19_0 := NB242_253.out
 have hns19_1 := NB243_253.out
 have hms19_0 := NB253_242.out
 have hms19_1 := NB253_243.out
 have hs20 : w14.cell? ⟨gb253, 3, none⟩ = some (.slice none 0 0) := (blk_cell BK253.out 3).trans rfl
 have hfs20 := bF BK253.out 3
 have hns20_0 := NB242_253.out
 have hns20_1 := NB243_253.out
 have hms20_0 := NB253_242.out
 have hms20_1 := NB253_243.out
 have hs21 : w14.cell? ⟨gb253, 4, none⟩ = some (.int .u32 0) := (blk_cell BK253.out 4).trans rfl
 have hfs21 := bF BK253.out 4
 have hns21_0 := NB242_253.out
 have hns21_1 := NB243_253.out
 have hms21_0 := NB253_242.out
 have hms21_1 := NB253_243.out
 have hs22 : w14.cell? ⟨gb253, 5, none⟩ = some (.int .u32 0) := (blk_cell BK253.out 5).trans rfl
 have hfs22 := bF BK253.out 5
 have hns22_0 := NB242_253.out
 have hns22_1 := NB243_253.out
 have hms22_0 := NB253_242.out
 have hms22_1 := NB253_243.out
 refine skip_ (w1 := ?_) (by rfl) rfl ?_ ?_
 rotate_left
 · go_simp
   rfl
 refine hK.out _ _ ⟨((cell_far (p := ⟨gb253, _, none⟩) NB242_253.out _).trans (((cell_far (p := ⟨gb253, _, none⟩) NB242_253.out _).trans (((cell_far (p := ⟨gb253, _, none⟩) NB242_253.out _).trans (((cell_far (p := ⟨gb253, _, none⟩) NB242_253.out _).trans (((cell_far (p := ⟨gb253, _, none⟩) NB242_253.out _).trans (((cell_far (p := ⟨gb253, _, none⟩) NB242_253.out _).trans (hHeld.1)))))))))))), ((cell_far (p := ⟨gb253, _, none⟩) NB242_253.out _).trans (((cell_far (p := ⟨gb253, _, none⟩) NB242_253.out _).trans (((cell_far (p := ⟨gb253, _, none⟩) NB242_253.out _).trans (((cell_far (p := ⟨gb253, _, none⟩) NB242_253.out _).trans (((cell_far (p := ⟨gb253, _, none⟩) NB242_253.out _).trans (((cell_far (p := ⟨gb253, _, none⟩) NB242_253.out _).trans (hHeld.2.1)))))))))))), ((cell_far (p := ⟨gb253, _, none⟩) NB242_253.out _).trans (((cell_far (p := ⟨gb253, _, none⟩) NB242_253.out _).trans (((cell_far (p := ⟨gb253, _, none⟩) NB242_253.out _).trans (((cell_far (p := ⟨gb253, _, none⟩) NB242_253.out _).trans (((cell_far (p := ⟨gb253, _, none⟩) NB242_253.out _).trans (((cell_far (p := ⟨gb253, _, none⟩) NB242_253.out _).trans (hHeld.2.2.1)))))))))))), ((cell_far (p := ⟨gb253, _, none⟩) NB242_253.out _).trans (((cell_far (p := ⟨gb253, _, none⟩) NB242_253.out _).trans (((cell_far (p := ⟨gb253, _, none⟩) NB242_253.out _).trans (((cell_far (p := ⟨gb253, _, none⟩) NB242_253.out _).trans (((cell_far (p := ⟨gb253, _, none⟩) NB242_253.out _).trans (((cell_far (p := ⟨gb253, _, none⟩) NB242_253.out _).trans (hHeld.2.2.2.1)))))))))))), ((cell_far (p := ⟨gb253, _, none⟩) NB242_253.out _).trans (((cell_far (p := ⟨gb253, _, none⟩) NB242_253.out _).trans (((cell_far (p := ⟨gb253, _, none⟩) NB242_253.out _).trans (((cell_far (p := ⟨gb253, _, none⟩) NB242_253.out _).trans (((cell_far (p := ⟨gb253, _, none⟩) NB242_253.out _).trans (((cell_far (p := ⟨gb253, _, none⟩) NB242_253.out _).trans (hHeld.2.2.2.2.1)))))))))))), ((cell_far (p := ⟨gb253, _, none⟩) NB242_253.out _).trans (((cell_far (p := ⟨gb253, _, none⟩) NB242_253.out _).trans (((cell_far (p := ⟨gb253, _, none⟩) NB242_253.out _).trans (((cell_far (p := ⟨gb253, _, none⟩) NB242_253.out _).trans (((cell_far (p := ⟨gb253, _, none⟩) NB242_253.out _).trans (((cell_far (p := ⟨gb253, _, none⟩) NB242_253.out _).trans (hHeld.2.2.2.2.2))))))))))))⟩ (fun hHeld => ?_)
 clear hK K
 refine done_ (done_of HT_.out (by kernel_rfl)) ?_
 have hnb23 := NB242_243.out
 have hnc23 := NB243_242.out
 have hnb24 := NB242_253.out
 have hnc24 := NB253_242.out
 obtain ⟨hcz25_0, hcz25_1, hcz25_2, hcz25_3, hcz25_4, hcz25_5, hfz25_0, hfz25_1, hfz25_2, hfz25_3, hfz25_4, hfz25_5⟩ := bc6_ BK242
 try go_wp2
 go_loopg [23] k (fun kq v23 w' => ∃ (x23_1 : Int) (x254002_1 : List (S61)) (u254002 : Value), v23 = .int .i64 x23_1 ∧ Aside0 (dragomanref11_Copy.l0 kq l0_2 (l0_2.length : Int) x23_1 a0_0 y247 x254002_1 t250 a0_4 a0_5 = some (r1, r2, r3, r4, r5, r6)) ∧ Aside0 (kq ≤ k) ∧ Aside0 (Kd.R k83 83 w' w.heap.size (fun _ => True) (.slice Ao16 y247.length co16) y247) ∧ Aside0 (Kd.R k61 61 w' w.heap.size (fun _ => True) u254002 x254002_1) ∧ Aside0 (Kd.S k64 64 w' w.heap.size (fun _ => True) (.slice Ao15 t250.length co15) t250) ∧ Aside0 (w'.heap[gb242]? = some (.cells #[.int .i64 a0_0, (.slice A0_1 l0_1.length c0_1), (.slice A0_2 l0_2.length c0_2), (.slice A0_3 l0_3.length c0_3), .int .u32 a0_4, .int .u32 a0_5] 46 (0, 0))) ∧ Aside0 (w'.heap[gb243]? = some (.cells #[.int .i64 0, (.slice none 0 0), (.slice none 0 0), (.slice none 0 0), .int .u32 0, .int .u32 0] 46 (0, 0))) ∧ Aside0 (w'.heap[gb253]? = some (.cells #[.int .i64 a0_0, (.slice Ao16 y247.length co16), u254002, (.slice Ao15 t250.length co15), .int .u32 a0_4, .int .u32 a0_5] 46 (0, 0))) ∧ Aside0 (Below w.heap.size w w'))
 case atStart => exact ⟨(0), (([] : List (S61))), (.slice none 0 0), rf_, H', ⟨Nat.le_refl _⟩, ⟨by (with_reducible repeat (first | apply kA | apply kN | apply kD)); exact Kd.R_mono (Kd.R_far (p := ⟨gb253, 5, none⟩) (Kd.R_far (p := ⟨gb253, 4, none⟩) (Kd.R_far (p := ⟨gb253, 3, none⟩) (Kd.R_far (p := ⟨gb253, 2, none⟩) (Kd.R_far (p := ⟨gb253, 1, none⟩) (Kd.R_far (p := ⟨gb253, 0, none⟩) (Kd.R_types HO249.out BK253.out (by decide)) (fun _ hk => hk.2) (.int .i64 a0_0)) (fun _ hk => hk.2) (.slice Ao16 y247.length co16)) (fun _ hk => hk.2) (.slice none 0 0)) (fun _ hk => hk.2) (.slice Ao15 t250.length co15)) (fun _ hk => hk.2) (.int .u32 a0_4)) (fun _ hk => hk.2) (.int .u32 a0_5)) (fun _ hk => trivial)⟩, ⟨by first | exact Kd.R_nil _ _ _ _ _ | exact Kd.N_nil _ _ _ _ _ | exact Kd.V_nil _ _ _ _ _ | exact Kd.Q_nil _ _ _ _ _ | exact Kd.S_nil _ _ _ _ _⟩, ⟨by (with_reducible repeat (first | apply Kd.S_alloc | apply Kd.S_drewN | apply Kd.S_drew)); exact Kd.S_mono (Kd.S_far (p := ⟨gb253, 5, none⟩) (Kd.S_far (p := ⟨gb253, 4, none⟩) (Kd.S_far (p := ⟨gb253, 3, none⟩) (Kd.S_far (p := ⟨gb253, 2, none⟩) (Kd.S_far (p := ⟨gb253, 1, none⟩) (Kd.S_far (p := ⟨gb253, 0, none⟩) (Kd.S_types HO252.out BK253.out (by decide)) (fun _ hk => hk.2) (.int .i64 a0_0)) (fun _ hk => hk.2) (.slice Ao16 y247.length co16)) (fun _ hk => hk.2) (.slice none 0 0)) (fun _ hk => hk.2) (.slice Ao15 t250.length co15)) (fun _ hk => hk.2) (.int .u32 a0_4)) (fun _ hk => hk.2) (.int .u32 a0_5)) (fun _ hk => trivial)⟩, ⟨by (with_reducible repeat (first | apply bkN | apply bkD | apply bkA)); refine blk_far ?_ NB242_253.out _; (with_reducible repeat (first | apply bkN | apply bkD | apply bkA)); refine blk_far ?_ NB242_253.out _; (with_reducible repeat (first | apply bkN | apply bkD | apply bkA)); refine blk_far ?_ NB242_253.out _; (with_reducible repeat (first | apply bkN | apply bkD | apply bkA)); refine blk_far ?_ NB242_253.out _; (with_reducible repeat (first | apply bkN | apply bkD | apply bkA)); refine blk_far ?_ NB242_253.out _; (with_reducible repeat (first | apply bkN | apply bkD | apply bkA)); refine blk_far ?_ NB242_253.out _; (with_reducible repeat (first | apply bkN | apply bkD | apply bkA)); exact BK242.out⟩, ⟨by (with_reducible repeat (first | apply bkN | apply bkD | apply bkA)); refine blk_far ?_ NB243_253.out _; (with_reducible repeat (first | apply bkN | apply bkD | apply bkA)); refine blk_far ?_ NB243_253.out _; (with_reducible repeat (first | apply bkN | apply bkD | apply bkA)); refine blk_far ?_ NB243_253.out _; (with_reducible repeat (first | apply bkN | apply bkD | apply bkA)); refine blk_far ?_ NB243_253.out _; (with_reducible repeat (first | apply bkN | apply bkD | apply bkA)); refine blk_far ?_ NB243_253.out _; (with_reducible repeat (first | apply bkN | apply bkD | apply bkA)); refine blk_far ?_ NB243_253.out _; (with_reducible repeat (first | apply bkN | apply bkD | apply bkA)); exact BK243.out⟩, ⟨by (with_reducible repeat (first | apply bkN | apply bkD | apply bkA)); refine blk_put (cs := #[.int .i64 a0_0, .slice Ao16 y247.length co16, .slice none 0 0, .slice Ao15 t250.length co15, .int .u32 a0_4, .int .u32 0]) ?_ 5 _ rfl; (with_reducible repeat (first | apply bkN | apply bkD | apply bkA)); refine blk_put (cs := #[.int .i64 a0_0, .slice Ao16 y247.length co16, .slice none 0 0, .slice Ao15 t250.length co15, .int .u32 0, .int .u32 0]) ?_ 4 _ rfl; (with_reducible repeat (first | apply bkN | apply bkD | apply bkA)); refine blk_put (cs := #[.int .i64 a0_0, .slice Ao16 y247.length co16, .slice none 0 0, .slice none 0 0, .int .u32 0, .int .u32 0]) ?_ 3 _ rfl; (with_reducible repeat (first | apply bkN | apply bkD | apply bkA)); refine blk_put (cs := #[.int .i64 a0_0, .slice Ao16 y247.length co16, .slice none 0 0, .slice none 0 0, .int .u32 0, .int .u32 0]) ?_ 2 _ rfl; (with_reducible repeat (first | apply bkN | apply bkD | apply bkA)); refine blk_put (cs := #[.int .i64 a0_0, .slice none 0 0, .slice none 0 0, .slice none 0 0, .int .u32 0, .int .u32 0]) ?_ 1 _ rfl; (with_reducible repeat (first | apply bkN | apply bkD | apply bkA)); refine blk_put (cs := #[.int .i64 0, .slice none 0 0, .slice none 0 0, .slice none 0 0, .int .u32 0, .int .u32 0]) ?_ 0 _ rfl; (with_reducible repeat (first | apply bkN | apply bkD | apply bkA)); exact BK253.out⟩, ⟨bw_ HB.out⟩⟩
 case round =>
  clear H'
  obtain ⟨x23_1, x254002_1, u254002, rfl, HA, HK1, HO_254001, HO_254002, HO_254003, BK242, BK243, BK253, HB⟩ := hrel
  cases gk with
  | zero => exact absurd HA.out (by simp [dragomanref11_Copy.l0])
  | succ k1 =>
   have H := HA.out
   clear HA
   simp only [dragomanref11_Copy.l0] at H
   by_cases c26 : x23_1 < (l0_2.length : Int)
   rotate_left
   · rw [if_neg c26] at H
     replace c26 := decide_eq_false c26
     simp only [Option.some.injEq, Prod.mk.injEq] at H
     obtain ⟨rfl, rfl, rfl, rfl, rfl, rfl⟩ := H
     have hnb44 := NB253_242.out
     have hnc44 := NB242_253.out
     have hnb45 := NB253_243.out
     have hnc45 := NB243_253.out
     obtain ⟨hcz46_0, hcz46_1, hcz46_2, hcz46_3, hcz46_4, hcz46_5, hfz46_0, hfz46_1, hfz46_2, hfz46_3, hfz46_4, hfz46_5⟩ := bc6_ BK253
     have hnb47 := NB243_242.out
     have hnc47 := NB242_243.out
     obtain ⟨hcz48_0, hcz48_1, hcz48_2, hcz48_3, hcz48_4, hcz48_5, hfz48_0, hfz48_1, hfz48_2, hfz48_3, hfz48_4, hfz48_5⟩ := bc6_ BK243
     obtain ⟨Ao49, co49, eo49⟩ := Kd.R_slice HO_254002.out
     subst eo49
     go_wp2
     refine bodyPost_ret (results_cell_row rfl _ _ gb243 46 #[.int .i64 a0_0, .slice Ao16 y247.length co16, .slice Ao49 x254002_1.length co49, .slice Ao15 t250.length co15, .int .u32 a0_4, .int .u32 a0_5] (0, 0) _ rfl (ub_ BK243.out) Try.underlying46 rfl (by kernel_rfl)) rfl ?_
     exact ⟨_, _, _, by first | rfl | (simp [errW_none, errW_some] <;> rfl) | (simp [*, errW_none, errW_some] <;> rfl), by (with_reducible repeat (first | apply kA | apply kN | apply kD)); exact Kd.R_mono (Kd.R_far (p := ⟨gb243, 5, none⟩) (Kd.R_far (p := ⟨gb243, 4, none⟩) (Kd.R_far (p := ⟨gb243, 3, none⟩) (Kd.R_far (p := ⟨gb243, 2, none⟩) (Kd.R_far (p := ⟨gb243, 1, none⟩) (Kd.R_far (p := ⟨gb243, 0, none⟩) (Kd.R_types HO_254001.out BK243.out (by decide)) (fun _ hk => hk.2) (.int .i64 a0_0)) (fun _ hk => hk.2) (.slice Ao16 y247.length co16)) (fun _ hk => hk.2) (.slice Ao49 x254002_1.length co49)) (fun _ hk => hk.2) (.slice Ao15 t250.length co15)) (fun _ hk => hk.2) (.int .u32 a0_4)) (fun _ hk => hk.2) (.int .u32 a0_5)) (fun _ hk => trivial), by (with_reducible repeat (first | apply kA | apply kN | apply kD)); exact Kd.R_mono (Kd.R_far (p := ⟨gb243, 5, none⟩) (Kd.R_far (p := ⟨gb243, 4, none⟩) (Kd.R_far (p := ⟨gb243, 3, none⟩) (Kd.R_far (p := ⟨gb243, 2, none⟩) (Kd.R_far (p := ⟨gb243, 1, none⟩) (Kd.R_far (p := ⟨gb243, 0, none⟩) (Kd.R_types HO_254002.out BK243.out (by decide)) (fun _ hk => hk.2) (.int .i64 a0_0)) (fun _ hk => hk.2) (.slice Ao16 y247.length co16)) (fun _ hk => hk.2) (.slice Ao49 x254002_1.length co49)) (fun _ hk => hk.2) (.slice Ao15 t250.length co15)) (fun _ hk => hk.2) (.int .u32 a0_4)) (fun _ hk => hk.2) (.int .u32 a0_5)) (fun _ hk => trivial), by (with_reducible repeat (first | apply Kd.S_alloc | apply Kd.S_drewN | apply Kd.S_drew)); exact Kd.S_mono (Kd.S_far (p := ⟨gb243, 5, none⟩) (Kd.S_far (p := ⟨gb243, 4, none⟩) (Kd.S_far (p := ⟨gb243, 3, none⟩) (Kd.S_far (p := ⟨gb243, 2, none⟩) (Kd.S_far (p := ⟨gb243, 1, none⟩) (Kd.S_far (p := ⟨gb243, 0, none⟩) (Kd.S_types HO_254003.out BK243.out (by decide)) (fun _ hk => hk.2) (.int .i64 a0_0)) (fun _ hk => hk.2) (.slice Ao16 y247.length co16)) (fun _ hk => hk.2) (.slice Ao49 x254002_1.length co49)) (fun _ hk => hk.2) (.slice Ao15 t250.length co15)) (fun _ hk => hk.2) (.int .u32 a0_4)) (fun _ hk => hk.2) (.int .u32 a0_5)) (fun _ hk => trivial), by repeat (first | (with_reducible first | exact HB.out | apply blA | apply blN | apply blD | refine bS ?_ GE242.out | refine bS ?_ GE243.out | refine bS ?_ GE253.out) | exact HB.out)⟩
   rw [if_pos c26] at H
   replace c26 := decide_eq_true c26
   obtain ⟨c27, H⟩ := ifd_ H
   obtain ⟨c28, H⟩ := ifd_ H
   obtain ⟨⟨t256, t257, t260⟩, A29, H⟩ := bnd_ H
   dsimp only at H
   have c30 := ifn_ H
   rw [if_pos c30] at H
   have LMc30 := aM c30
   clear c30
   obtain ⟨y263, hy263⟩ : ∃ y_ : List (S61), y_ = (x254002_1 ++ [(⟨(rd_T61 l0_2 x23_1).f0, (⟨t256, t257, t260⟩ : S25)⟩ : S61)]) := ⟨_, rfl⟩
   replace H : (dragomanref11_Copy.l0 k1 l0_2 (l0_2.length : Int) (wrap64 (x23_1 + 1)) a0_0 y247 y263 t250 a0_4 a0_5) = some (r1, r2, r3, r4, r5, r6) := by first | (rw [hy263]; with_reducible exact H) | (have H2_ := (Option.bind_some _ _).symm.trans H; rw [hy263]; with_reducible exact H2_) | (have H2_ := (Option.bind_some _ _).symm.trans H; with_reducible exact H2_) | with_reducible exact H | (rw [hy263]; exact H) | exact H
   have Ny263 := aM hy263
   clear hy263
   have H' := aM H
   clear H
   have p254 : 0 ≤ (x23_1 : Int) := od_
   have q254 : x23_1 < (l0_2.length : Int) := od_
   obtain ⟨ad254, A254_2, c254_2, A254_3, c254_3, e254, hx254_0, hx254_1, hx254_2, hx254_3, hl254_2, hi254_2, hl254_3, hi254_3⟩ := at_T61 HR0_2.out x23_1 p254 q254
   cases e254
   replace hx254_0 := hx_ HB hx254_0
   replace hx254_1 := hx_ HB hx254_1
   replace hx254_2 := hx_ HB hx254_2
   replace hx254_3 := hx_ HB hx254_3
   have HR254_2 := aM hi254_2
   have HC254_2 := aM hl254_2
   clear hi254_2 hl254_2
   have HR254_3 := aM hi254_3
   have HC254_3 := aM hl254_3
   clear hi254_3 hl254_3
   replace p254 := eq_true p254
   replace q254 := eq_true q254
   try go_wp2_with (first | ((with_reducible refine gd_ 5 rfl ?_); refine be_ #[.bool false, .int .i64 0, .slice none 0 0, .slice none 0 0] 61 ?_; intro gb255 hg w31 BK255 hb; have GW255 := ge_ HB hg; have GE255 := ge_ HB hg; have NB242_255 := nl_ BK242 hg; have NB255_242 := ng_ BK242 hg; have NB243_255 := nl_ BK243 hg; have NB255_243 := ng_ BK243 hg; have NB253_255 := nl_ BK253 hg; have NB255_253 := ng_ BK253 hg; replace HO_254001 := aM (Kd.R_below (uk_ HO_254001.out) hb); replace HO_254002 := aM (Kd.R_below (Kd.R_elderB (uk_ HO_254002.out) gb255 (Nat.le_of_eq hg.symm)) hb); replace HO_254003 := aM (Kd.S_below (us_ HO_254003.out) hb); replace BK242 := bb_ BK242 hb; replace BK243 := bb_ BK243 hb; replace BK253 := bb_ BK253 hb; replace HB := bs_ HB hb; clear hb hg; have hnb32 := NB255_242.out; have hnc32 := NB242_255.out; have hnb33 := NB255_243.out; have hnc33 := NB243_255.out; have hnb34 := NB255_253.out; have hnc34 := NB253_255.out; obtain ⟨hcz35_0, hcz35_1, hcz35_2, hcz35_3, hfz35_0, hfz35_1, hfz35_2, hfz35_3⟩ := bc4_ BK255))
   have n0_ : Aside0 (Kd.R k83 83 ((((w31.setCell ⟨gb255, 0, none⟩ (.bool ((rd_T61 l0_2 x23_1).f0))).setCell ⟨gb255, 1, none⟩ (.int .i64 ((rd_T61 l0_2 x23_1).f1.f0))).setCell ⟨gb255, 2, none⟩ (.slice A254_2 ((rd_T61 l0_2 x23_1).f1.f1).length c254_2)).setCell ⟨gb255, 3, none⟩ (.slice A254_3 ((rd_T61 l0_2 x23_1).f1.f2).length c254_3)) w.heap.size (fun _ => True) (.slice Ao16 y247.length co16) y247) := ⟨by (with_reducible repeat (first | apply kA | apply kN | apply kD)); exact Kd.R_mono (Kd.R_far (p := ⟨gb255, 3, none⟩) (Kd.R_far (p := ⟨gb255, 2, none⟩) (Kd.R_far (p := ⟨gb255, 1, none⟩) (Kd.R_far (p := ⟨gb255, 0, none⟩) (Kd.R_types HO_254001.out BK255.out (by decide)) (fun _ hk => hk.2) (.bool ((rd_T61 l0_2 x23_1).f0))) (fun _ hk => hk.2) (.int .i64 ((rd_T61 l0_2 x23_1).f1.f0))) (fun _ hk => hk.2) (.slice A254_2 ((rd_T61 l0_2 x23_1).f1.f1).length c254_2)) (fun _ hk => hk.2) (.slice A254_3 ((rd_T61 l0_2 x23_1).f1.f2).length c254_3)) (fun _ hk => trivial)⟩
   have n1_ : Aside0 (Kd.R k61 61 ((((w31.setCell ⟨gb255, 0, none⟩ (.bool ((rd_T61 l0_2 x23_1).f0))).setCell ⟨gb255, 1, none⟩ (.int .i64 ((rd_T61 l0_2 x23_1).f1.f0))).setCell ⟨gb255, 2, none⟩ (.slice A254_2 ((rd_T61 l0_2 x23_1).f1.f1).length c254_2)).setCell ⟨gb255, 3, none⟩ (.slice A254_3 ((rd_T61 l0_2 x23_1).f1.f2).length c254_3)) w.heap.size (fun k_ => k_ ≠ gb255) u254002 x254002_1) := ⟨by (with_reducible repeat (first | apply kA | apply kN | apply kD)); exact Kd.R_mono (Kd.R_far (p := ⟨gb255, 3, none⟩) (Kd.R_far (p := ⟨gb255, 2, none⟩) (Kd.R_far (p := ⟨gb255, 1, none⟩) (Kd.R_far (p := ⟨gb255, 0, none⟩) (Kd.R_mono HO_254002.out (fun k_ hk => (⟨hk, hk.2⟩ : _ ∧ k_ ≠ gb255))) (fun _ hk => hk.2) (.bool ((rd_T61 l0_2 x23_1).f0))) (fun _ hk => hk.2) (.int .i64 ((rd_T61 l0_2 x23_1).f1.f0))) (fun _ hk => hk.2) (.slice A254_2 ((rd_T61 l0_2 x23_1).f1.f1).length c254_2)) (fun _ hk => hk.2) (.slice A254_3 ((rd_T61 l0_2 x23_1).f1.f2).length c254_3)) (fun _ hk => hk.1.2)⟩
   have n2_ : Aside0 (Kd.S k64 64 ((((w31.setCell ⟨gb255, 0, none⟩ (.bool ((rd_T61 l0_2 x23_1).f0))).setCell ⟨gb255, 1, none⟩ (.int .i64 ((rd_T61 l0_2 x23_1).f1.f0))).setCell ⟨gb255, 2, none⟩ (.slice A254_2 ((rd_T61 l0_2 x23_1).f1.f1).length c254_2)).setCell ⟨gb255, 3, none⟩ (.slice A254_3 ((rd_T61 l0_2 x23_1).f1.f2).length c254_3)) w.heap.size (fun _ => True) (.slice Ao15 t250.length co15) t250) := ⟨by (with_reducible repeat (first | apply Kd.S_alloc | apply Kd.S_drewN | apply Kd.S_drew)); exact Kd.S_mono (Kd.S_far (p := ⟨gb255, 3, none⟩) (Kd.S_far (p := ⟨gb255, 2, none⟩) (Kd.S_far (p := ⟨gb255, 1, none⟩) (Kd.S_far (p := ⟨gb255, 0, none⟩) (Kd.S_types HO_254003.out BK255.out (by decide)) (fun _ hk => hk.2) (.bool ((rd_T61 l0_2 x23_1).f0))) (fun _ hk => hk.2) (.int .i64 ((rd_T61 l0_2 x23_1).f1.f0))) (fun _ hk => hk.2) (.slice A254_2 ((rd_T61 l0_2 x23_1).f1.f1).length c254_2)) (fun _ hk => hk.2) (.slice A254_3 ((rd_T61 l0_2 x23_1).f1.f2).length c254_3)) (fun _ hk => trivial)⟩
   have n3_ : Aside0 (((((w31.setCell ⟨gb255, 0, none⟩ (.bool ((rd_T61 l0_2 x23_1).f0))).setCell ⟨gb255, 1, none⟩ (.int .i64 ((rd_T61 l0_2 x23_1).f1.f0))).setCell ⟨gb255, 2, none⟩ (.slice A254_2 ((rd_T61 l0_2 x23_1).f1.f1).length c254_2)).setCell ⟨gb255, 3, none⟩ (.slice A254_3 ((rd_T61 l0_2 x23_1).f1.f2).length c254_3)).heap[gb242]? = some (.cells #[.int .i64 a0_0, .slice A0_1 l0_1.length c0_1, .slice (some ad254) l0_2.length c0_2, .slice A0_3 l0_3.length c0_3, .int .u32 a0_4, .int .u32 a0_5] 46 (0, 0))) := ⟨by (with_reducible repeat (first | apply bkN | apply bkD | apply bkA)); refine blk_far ?_ NB242_255.out _; (with_reducible repeat (first | apply bkN | apply bkD | apply bkA)); refine blk_far ?_ NB242_255.out _; (with_reducible repeat (first | apply bkN | apply bkD | apply bkA)); refine blk_far ?_ NB242_255.out _; (with_reducible repeat (first | apply bkN | apply bkD | apply bkA)); refine blk_far ?_ NB242_255.out _; (with_reducible repeat (first | apply bkN | apply bkD | apply bkA)); exact BK242.out⟩
   have n4_ : Aside0 (((((w31.setCell ⟨gb255, 0, none⟩ (.bool ((rd_T61 l0_2 x23_1).f0))).setCell ⟨gb255, 1, none⟩ (.int .i64 ((rd_T61 l0_2 x23_1).f1.f0))).setCell ⟨gb255, 2, none⟩ (.slice A254_2 ((rd_T61 l0_2 x23_1).f1.f1).length c254_2)).setCell ⟨gb255, 3, none⟩ (.slice A254_3 ((rd_T61 l0_2 x23_1).f1.f2).length c254_3)).heap[gb243]? = some (.cells #[.int .i64 0, .slice none 0 0, .slice none 0 0, .slice none 0 0, .int .u32 0, .int .u32 0] 46 (0, 0))) := ⟨by (with_reducible repeat (first | apply bkN | apply bkD | apply bkA)); refine blk_far ?_ NB243_255.out _; (with_reducible repeat (first | apply bkN | apply bkD | apply bkA)); refine blk_far ?_ NB243_255.out _; (with_reducible repeat (first | apply bkN | apply bkD | apply bkA)); refine blk_far ?_ NB243_255.out _; (with_reducible repeat (first | apply bkN | apply bkD | apply bkA)); refine blk_far ?_ NB243_255.out _; (with_reducible repeat (first | apply bkN | apply bkD | apply bkA)); exact BK243.out⟩
   have n5_ : Aside0 (((((w31.setCell ⟨gb255, 0, none⟩ (.bool ((rd_T61 l0_2 x23_1).f0))).setCell ⟨gb255, 1, none⟩ (.int .i64 ((rd_T61 l0_2 x23_1).f1.f0))).setCell ⟨gb255, 2, none⟩ (.slice A254_2 ((rd_T61 l0_2 x23_1).f1.f1).length c254_2)).setCell ⟨gb255, 3, none⟩ (.slice A254_3 ((rd_T61 l0_2 x23_1).f1.f2).length c254_3)).heap[gb253]? = some (.cells #[.int .i64 a0_0, .slice Ao16 y247.length co16, u254002, .slice Ao15 t250.length co15, .int .u32 a0_4, .int .u32 a0_5] 46 (0, 0))) := ⟨by (with_reducible repeat (first | apply bkN | apply bkD | apply bkA)); refine blk_far ?_ NB253_255.out _; (with_reducible repeat (first | apply bkN | apply bkD | apply bkA)); refine blk_far ?_ NB253_255.out _; (with_reducible repeat (first | apply bkN | apply bkD | apply bkA)); refine blk_far ?_ NB253_255.out _; (with_reducible repeat (first | apply bkN | apply bkD | apply bkA)); refine blk_far ?_ NB253_255.out _; (with_reducible repeat (first | apply bkN | apply bkD | apply bkA)); exact BK253.out⟩
   have n6_ : Aside0 (((((w31.setCell ⟨gb255, 0, none⟩ (.bool ((rd_T61 l0_2 x23_1).f0))).setCell ⟨gb255, 1, none⟩ (.int .i64 ((rd_T61 l0_2 x23_1).f1.f0))).setCell ⟨gb255, 2, none⟩ (.slice A254_2 ((rd_T61 l0_2 x23_1).f1.f1).length c254_2)).setCell ⟨gb255, 3, none⟩ (.slice A254_3 ((rd_T61 l0_2 x23_1).f1.f2).length c254_3)).heap[gb255]? = some (.cells #[.bool ((rd_T61 l0_2 x23_1).f0), .int .i64 ((rd_T61 l0_2 x23_1).f1.f0), .slice A254_2 ((rd_T61 l0_2 x23_1).f1.f1).length c254_2, .slice A254_3 ((rd_T61 l0_2 x23_1).f1.f2).length c254_3] 61 (0, 0))) := ⟨by (with_reducible repeat (first | apply bkN | apply bkD | apply bkA)); refine blk_put (cs := #[.bool ((rd_T61 l0_2 x23_1).f0), .int .i64 ((rd_T61 l0_2 x23_1).f1.f0), .slice A254_2 ((rd_T61 l0_2 x23_1).f1.f1).length c254_2, .slice none 0 0]) ?_ 3 _ rfl; (with_reducible repeat (first | apply bkN | apply bkD | apply bkA)); refine blk_put (cs := #[.bool ((rd_T61 l0_2 x23_1).f0), .int .i64 ((rd_T61 l0_2 x23_1).f1.f0), .slice none 0 0, .slice none 0 0]) ?_ 2 _ rfl; (with_reducible repeat (first | apply bkN | apply bkD | apply bkA)); refine blk_put (cs := #[.bool ((rd_T61 l0_2 x23_1).f0), .int .i64 0, .slice none 0 0, .slice none 0 0]) ?_ 1 _ rfl; (with_reducible repeat (first | apply bkN | apply bkD | apply bkA)); refine blk_put (cs := #[.bool false, .int .i64 0, .slice none 0 0, .slice none 0 0]) ?_ 0 _ rfl; (with_reducible repeat (first | apply bkN | apply bkD | apply bkA)); exact BK255.out⟩
   have n7_ : Aside0 (Below w.heap.size w ((((w31.setCell ⟨gb255, 0, none⟩ (.bool ((rd_T61 l0_2 x23_1).f0))).setCell ⟨gb255, 1, none⟩ (.int .i64 ((rd_T61 l0_2 x23_1).f1.f0))).setCell ⟨gb255, 2, none⟩ (.slice A254_2 ((rd_T61 l0_2 x23_1).f1.f1).length c254_2)).setCell ⟨gb255, 3, none⟩ (.slice A254_3 ((rd_T61 l0_2 x23_1).f1.f2).length c254_3))) := ⟨bw_ HB.out⟩
   (try clear HO_254001)
   (try clear HO_254002)
   (try clear HO_254003)
   (try clear BK242)
   (try clear BK243)
   (try clear BK253)
   (try clear BK255)
   (try clear HB)
   generalize ((((w31.setCell ⟨gb255, 0, none⟩ (.bool ((rd_T61 l0_2 x23_1).f0))).setCell ⟨gb255, 1, none⟩ (.int .i64 ((rd_T61 l0_2 x23_1).f1.f0))).setCell ⟨gb255, 2, none⟩ (.slice A254_2 ((rd_T61 l0_2 x23_1).f1.f1).length c254_2)).setCell ⟨gb255, 3, none⟩ (.slice A254_3 ((rd_T61 l0_2 x23_1).f1.f2).length c254_3)) = w36 at n0_ n1_ n2_ n3_ n4_ n5_ n6_ n7_ ⊢
   have HO_254001 := n0_
   have HO_254002 := n1_
   have HO_254003 := n2_
   have BK242 := n3_
   have BK243 := n4_
   have BK253 := n5_
   have BK255 := n6_
   have HB := n7_
   clear n0_ n1_ n2_ n3_ n4_ n5_ n6_ n7_
   replace HO_254001 := aM (Kd.R_drew HO_254001.out)
   replace HO_254002 := aM (Kd.R_drew HO_254002.out)
   replace HO_254003 := aM (Kd.S_drew HO_254003.out)
   replace BK242 := aM (blk_drew BK242.out)
   replace BK243 := aM (blk_drew BK243.out)
   replace BK253 := aM (blk_drew BK253.out)
   replace BK255 := aM (blk_drew BK255.out)
   replace HB := aM (below_drew1 HB.out)
   refine start_ (n := 12) (S := fun w' => w'.cell? ⟨gb253, 0, none⟩ = some (.int .i64 a0_0) ∧ w'.cell? ⟨gb253, 1, none⟩ = some (.slice Ao16 y247.length co16) ∧ w'.cell? ⟨gb253, 2, none⟩ = some (u254002) ∧ w'.cell? ⟨gb253, 3, none⟩ = some (.slice Ao15 t250.length co15) ∧ w'.cell? ⟨gb253, 4, none⟩ = some (.int .u32 a0_4) ∧ w'.cell? ⟨gb253, 5, none⟩ = some (.int .u32 a0_5) ∧ w'.cell? ⟨gb255, 0, none⟩ = some (.bool ((rd_T61 l0_2 x23_1).f0)) ∧ w'.cell? ⟨gb255, 1, none⟩ = some (.int .i64 ((rd_T61 l0_2 x23_1).f1.f0)) ∧ w'.cell? ⟨gb255, 2, none⟩ = some (.slice A254_2 ((rd_T61 l0_2 x23_1).f1.f1).length c254_2) ∧ w'.cell? ⟨gb255, 3, none⟩ = some (.slice A254_3 ((rd_T61 l0_2 x23_1).f1.f2).length c254_3)) (ds := [11]) (tf 0 12) (by kernel_rfl) rfl rfl ⟨(blk_cell BK253.out 0).trans rfl, (blk_cell BK253.out 1).trans rfl, (blk_cell BK253.out 2).trans rfl, (blk_cell BK253.out 3).trans rfl, (blk_cell BK253.out 4).trans rfl, (blk_cell BK253.out 5).trans rfl, (blk_cell BK255.out 0).trans rfl, (blk_cell BK255.out 1).trans rfl, (blk_cell BK255.out 2).trans rfl, (blk_cell BK255.out 3).trans rfl⟩ (fun hHeld => ?_); refine with_tabW dragomanref11_Copy.tab5 dragomanref11_Copy.bits5 (fun HT_ HW_ => ?_)
   generalize w36.drew = w37 at HO_254001 HO_254002 HO_254003 BK242 BK243 BK253 BK255 HB hHeld ⊢
   refine pA_ 0 (some 27) ?_
   refine pA_ 2 (some 29) ?_
   refine pA_ 4 (some 31) ?_
   refine pT_ 1 (some 28) hHeld ?_
   refine pT_ 3 (some 30) hHeld ?_
   refine pT_ 5 (some 32) hHeld ?_
   refine pO_ 6 (some 33) (fun K hK => ?_)
   refine gO_ Try.func15 #[.agg #[.int .i64 ((rd_T61 l0_2 x23_1).f1.f0), .slice A254_2 ((rd_T61 l0_2 x23_1).f1.f1).length c254_2, .slice A254_3 ((rd_T61 l0_2 x23_1).f1.f2).length c254_3]] rfl rfl ?_
   with_reducible refine (r5_Copy.calls k1 ((rd_T61 l0_2 x23_1).f1.f0) _ _ ((rd_T61 l0_2 x23_1).f1.f1) _ _ ((rd_T61 l0_2 x23_1).f1.f2) t256 t257 t260 _ ?side1 ?side2 ?side3 ?side4 A29.out).mono ?_
   (case side1 => exact cB_ HR254_2 HB)
   (case side2 => exact HC254_2.out)
   (case side3 => exact cB_ HR254_3 HB)
   (case side4 => exact HC254_3.out)
   rintro e w38 ⟨v258, v261, rfl, ho0, ho1, hb⟩
   refine ⟨_, rfl, ?_⟩
   have HO259 := aM (Kd.R_lower ho0 (below_size (bw_ HB.out)))
   have HO262 := aM (Kd.R_lower ho1 (below_size (bw_ HB.out)))
   replace HO_254001 := aM (Kd.R_below (uk_ HO_254001.out) hb)
   replace HO_254002 := aM (Kd.R_mono (Kd.R_told (Kd.R_told (Kd.R_old (uk_ HO_254002.out) hb) (Kd.R_base ho0)) (Kd.R_base ho1)) (fun _ h_ => h_.1))
   replace HO_254003 := aM (Kd.S_below (us_ HO_254003.out) hb)
   replace BK242 := bb_ BK242 hb
   replace BK243 := bb_ BK243 hb
   replace BK253 := bb_ BK253 hb
   replace BK255 := bb_ BK255 hb
   replace HB := bs_ HB hb
   (try clear hb)
   (try clear hb2)
   (try clear hk)
   (try clear hi)
   (try clear ho0)
   (try clear ho1)
   obtain ⟨Ao39, co39, eo39⟩ := Kd.R_slice HO262.out
   (first | subst eo39 | (injection eo39 with f1_ f2_ f3_; have f4_ := f1_.symm; have f5_ := f3_.symm; clear f1_ f2_ f3_; subst f4_; subst f5_))
   obtain ⟨Ao40, co40, eo40⟩ := Kd.R_slice HO259.out
   (first | subst eo40 | (injection eo40 with f1_ f2_ f3_; have f4_ := f1_.symm; have f5_ := f3_.symm; clear f1_ f2_ f3_; subst f4_; subst f5_))
   refine hK.out _ _ ⟨(blk_cell BK253.out 0).trans rfl, (blk_cell BK253.out 1).trans rfl, (blk_cell BK253.out 2).trans rfl, (blk_cell BK253.out 3).trans rfl, (blk_cell BK253.out 4).trans rfl, (blk_cell BK253.out 5).trans rfl, (blk_cell BK255.out 0).trans rfl, (blk_cell BK255.out 1).trans rfl, (blk_cell BK255.out 2).trans rfl, (blk_cell BK255.out 3).trans rfl⟩ (fun hHeld => ?_)
   clear hK K
   refine nO_ (some 33) ?_
   refine pA_ 7 (some 34) ?_
   refine pO_ 8 (some 35) (fun K hK => ?_)
   refine value_ (w1 := ?_) (v := ?_) (by rfl) rfl ?_ ?_
   rotate_left 2
   · go_simp
     constructor
     · rfl
     · rfl
   refine hK.out _ _ ⟨(blk_cell (blk_alloc BK253.out _) 0).trans rfl, (blk_cell (blk_alloc BK253.out _) 1).trans rfl, (blk_cell (blk_alloc BK253.out _) 2).trans rfl, (blk_cell (blk_alloc BK253.out _) 3).trans rfl, (blk_cell (blk_alloc BK253.out _) 4).trans rfl, (blk_cell (blk_alloc BK253.out _) 5).trans rfl, (blk_cell (blk_alloc BK255.out _) 0).trans rfl, (blk_cell (blk_alloc BK255.out _) 1).trans rfl, (blk_cell (blk_alloc BK255.out _) 2).trans rfl, (blk_cell (blk_alloc BK255.out _) 3).trans rfl⟩ (fun hHeld => ?_)
   clear hK K
   refine nO_ (some 35) ?_
   refine pO_ 9 (some 36) (fun K hK => ?_)
   refine Kd.R_append_step k61 (w0 := w) w.heap.size (by rfl) (.tmp 28) (.tmp 35) 43 61 (.agg #[(.bool false), (.int .i64 0), (.slice none 0 0), (.slice none 0 0)]) 64 rfl Try.underlying43 info61 rfl (by decide) (by omega) u254002 x254002_1 (⟨(rd_T61 l0_2 x23_1).f0, (⟨t256, t257, t260⟩ : S25)⟩ : S61) [.bool ((rd_T61 l0_2 x23_1).f0), .int .i64 t256, .slice Ao40 t257.length co40, .slice Ao39 t260.length co39] (fun k_ => k_ ≠ gb255) (fun k_ => ((fun k_ => k_ ≠ gb255)) k_ ∧ some k_ ≠ (u254002 : Value).ownBlock) rfl rfl ?aP (fun _ hk => hk) ?aF ?aO ?aB ?aS ?aL ?_
   (case aP => exact k61_mkM _ _ _ (⟨(rd_T61 l0_2 x23_1).f0, (⟨t256, t257, t260⟩ : S25)⟩ : S61) (Kd.R_mono (Kd.R_types (Kd.R_apart' (HO259.out) (Kd.R_typed HO_254002.out) (by decide)) BK255.out (by decide)) (fun k_ hk => ⟨hk.2, hk.1.2⟩)) (Kd.R_mono (Kd.R_types (Kd.R_apart' (HO262.out) (Kd.R_typed HO_254002.out) (by decide)) BK255.out (by decide)) (fun k_ hk => ⟨hk.2, hk.1.2⟩)))
   (case aB => exact (bw_ HB.out))
   (case aF => exact (fun k_ hk => Kd.freshB (g := gb255) (o := .cells #[.bool ((rd_T61 l0_2 x23_1).f0), .int .i64 ((rd_T61 l0_2 x23_1).f1.f0), .slice A254_2 ((rd_T61 l0_2 x23_1).f1.f1).length c254_2, .slice A254_3 ((rd_T61 l0_2 x23_1).f1.f2).length c254_3] 61 (0, 0)) (ub_ BK255.out) k_ hk))
   (case aO => exact (uk_ (Kd.R_mono HO_254002.out (fun _ hk => hk.1.1))))
   (case aS => exact (below_size (bw_ HB.out)))
   (case aL => have := LMc30.out; omega)
   intro v264 w41 ho hb hg hat
   rw [← Ny263.out] at ho
   have HO265 := aM ho
   replace HO_254001 := aM (Kd.R_over' (uk_ HO_254001.out) (Kd.R_typed (uk_ HO_254002.out)) (by decide) hg)
   replace HO_254003 := aM (Kd.S_over' (us_ HO_254003.out) (Kd.R_typed (uk_ HO_254002.out)) (by decide) hg)
   replace BK242 := aM (blk_grown (g := gb242) (o := .cells #[.int .i64 a0_0, .slice A0_1 l0_1.length c0_1, .slice (some ad254) l0_2.length c0_2, .slice A0_3 l0_3.length c0_3, .int .u32 a0_4, .int .u32 a0_5] 46 (0, 0)) (ub_ BK242.out) hg (Kd.R_ne HO_254002.out BK242.out (by decide)))
   replace BK243 := aM (blk_grown (g := gb243) (o := .cells #[.int .i64 0, .slice none 0 0, .slice none 0 0, .slice none 0 0, .int .u32 0, .int .u32 0] 46 (0, 0)) (ub_ BK243.out) hg (Kd.R_ne HO_254002.out BK243.out (by decide)))
   replace BK253 := aM (blk_grown (g := gb253) (o := .cells #[.int .i64 a0_0, .slice Ao16 y247.length co16, u254002, .slice Ao15 t250.length co15, .int .u32 a0_4, .int .u32 a0_5] 46 (0, 0)) (ub_ BK253.out) hg (Kd.R_ne HO_254002.out BK253.out (by decide)))
   replace BK255 := aM (blk_grown (g := gb255) (o := .cells #[.bool ((rd_T61 l0_2 x23_1).f0), .int .i64 ((rd_T61 l0_2 x23_1).f1.f0), .slice A254_2 ((rd_T61 l0_2 x23_1).f1.f1).length c254_2, .slice A254_3 ((rd_T61 l0_2 x23_1).f1.f2).length c254_3] 61 (0, 0)) (ub_ BK255.out) hg (Kd.R_away HO_254002.out (fun _ hk => hk.1.1)))
   replace HB := aM hb
   clear HO_254002
   clear HO259
   clear HO262
   clear ho hb hg hat
   obtain ⟨Ao42, co42, eo42⟩ := Kd.R_slice HO265.out
   (first | subst eo42 | (injection eo42 with f1_ f2_ f3_; have f4_ := f1_.symm; have f5_ := f3_.symm; clear f1_ f2_ f3_; subst f4_; subst f5_))
   refine hK.out _ _ ⟨(blk_cell BK253.out 0).trans rfl, (blk_cell BK253.out 1).trans rfl, (blk_cell BK253.out 2).trans rfl, (blk_cell BK253.out 3).trans rfl, (blk_cell BK253.out 4).trans rfl, (blk_cell BK253.out 5).trans rfl, (blk_cell BK255.out 0).trans rfl, (blk_cell BK255.out 1).trans rfl, (blk_cell BK255.out 2).trans rfl, (blk_cell BK255.out 3).trans rfl⟩ (fun hHeld => ?_)
   clear hK K
   refine nO_ (some 36) ?_
   refine pA_ 10 (some 37) ?_
   refine last_ (i := 11) (N := none) (tf 12 0) rfl rfl (one_of HT_.out (by kernel_rfl)) (by decide) (fun K hK => ?_)
   have hs43 : w41.cell? ⟨gb253, 2, none⟩ = some (u254002) := (blk_cell BK253.out 2).trans rfl
   have hfs43 := bF BK253.out 2
   have hns43_0 := NB242_253.out
   have hns43_1 := NB243_253.out
   have hns43_3 := NB255_253.out
   have hms43_0 := NB253_242.out
   have hms43_1 := NB253_243.out
   have hms43_3 := NB253_255.out
   refine skip_ (w1 := ?_) (by rfl) rfl ?_ ?_
   rotate_left
   · go_simp
     rfl
   refine hK.out _ _ ?_
   clear hK K
   refine done_ (done_of HT_.out (by kernel_rfl)) ?_
   try go_wp2
   go_roundg k1
   case measure => have := HK1.out; omega
   case rel => exact ⟨(wrap64 (x23_1 + 1)), (y263), (.slice Ao42 y263.length co42), rf_, H', ⟨by have := HK1.out; omega⟩, ⟨by (with_reducible repeat (first | apply kA | apply kN | apply kD)); exact Kd.R_mono (Kd.R_far (p := ⟨gb253, 2, none⟩) (Kd.R_types HO_254001.out BK253.out (by decide)) (fun _ hk => hk.2) (.slice Ao42 y263.length co42)) (fun _ hk => trivial)⟩, ⟨by (with_reducible repeat (first | apply kA | apply kN | apply kD)); exact Kd.R_mono (Kd.R_far (p := ⟨gb253, 2, none⟩) (Kd.R_types HO265.out BK253.out (by decide)) (fun _ hk => hk.2) (.slice Ao42 y263.length co42)) (fun _ hk => trivial)⟩, ⟨by (with_reducible repeat (first | apply Kd.S_alloc | apply Kd.S_drewN | apply Kd.S_drew)); exact Kd.S_mono (Kd.S_far (p := ⟨gb253, 2, none⟩) (Kd.S_types HO_254003.out BK253.out (by decide)) (fun _ hk => hk.2) (.slice Ao42 y263.length co42)) (fun _ hk => trivial)⟩, ⟨by (with_reducible repeat (first | apply bkN | apply bkD | apply bkA)); refine blk_far ?_ NB242_253.out _; (with_reducible repeat (first | apply bkN | apply bkD | apply bkA)); exact BK242.out⟩, ⟨by (with_reducible repeat (first | apply bkN | apply bkD | apply bkA)); refine blk_far ?_ NB243_253.out _; (with_reducible repeat (first | apply bkN | apply bkD | apply bkA)); exact BK243.out⟩, ⟨by (with_reducible repeat (first | apply bkN | apply bkD | apply bkA)); refine blk_put (cs := #[.int .i64 a0_0, .slice Ao16 y247.length co16, u254002, .slice Ao15 t250.length co15, .int .u32 a0_4, .int .u32 a0_5]) ?_ 2 _ rfl; (with_reducible repeat (first | apply bkN | apply bkD | apply bkA)); exact BK253.out⟩, ⟨bw_ HB.out⟩⟩
end Go.Proofs.Ytlkjfjlmjgkheaa.H
