import Derived.Test.YtlkjfjlmjgkheaaGx0
import Derived.Test.YtlkjfjlmjgkheaaGx6
namespace Go.Proofs.Ytlkjfjlmjgkheaa.G
open Go.RowKit Go.Proofs.YtlkjfjlmjgkheaaW.PrintWords Go.Proofs.YtlkjfjlmjgkheaaW.PrintLast Go.Proofs.YtlkjfjlmjgkheaaW.PrintMore
attribute [local go_sem] max2_int min2_int max_two min_two max_three min_three max_four min_four
set_option linter.unusedVariables false
set_option linter.unusedSimpArgs false
mutual
def pat_twin.l0 : Nat → List (S25) → Int → Int → Int → List (S66) → List (S25) → Option (Int × (List (S66)) × (List (S25)))
 | 0, _, _, _, _, _, _ => none
 | k + 1, x13, x14, x15, x167000, x167001, x167002 => if x15 < x14 then (if 0 ≤ x15 then (if x15 < (x13.length : Int) then ((pat_twin.f k ((rd_T25 x13 x15).f0) ((rd_T25 x13 x15).f1) ((rd_T25 x13 x15).f2)).bind fun bt169 => (if x167002.length < 2513169434916 then (pat_twin.l0 k x13 x14 (wrap64 (x15 + 1)) x167000 x167001 (x167002 ++ [(⟨bt169.1, bt169.2.1, bt169.2.2⟩ : S25)])) else (none))) else (none)) else (none)) else (some (x167000, x167001, x167002))
def pat_twin.f : Nat → Int → List (S66) → List (S25) → Option (Int × (List (S66)) × (List (S25)))
 | 0, _, _, _ => none
 | k + 1, a0_0, l0_1, l0_2 => (api_Span_84.f l0_1).bind fun t163 => (pat_twin.l0 k l0_2 (l0_2.length : Int) 0 a0_0 t163 ([] : List (S25)))
end
theorem pat_twin.mono_l : ∀ k, (∀ y0 y1 y2, LeO (pat_twin.f k y0 y1 y2) (pat_twin.f (k + 1) y0 y1 y2)) ∧ (∀ y0 y1 y2 y3 y4 y5, LeO (pat_twin.l0 k y0 y1 y2 y3 y4 y5) (pat_twin.l0 (k + 1) y0 y1 y2 y3 y4 y5))
 | 0 => ⟨fun _ _ _ r h => by simp [pat_twin.f] at h, fun _ _ _ _ _ _ r h => by simp [pat_twin.l0] at h⟩
 | k + 1 => by
  obtain ⟨ih0, ih1⟩ := pat_twin.mono_l k
  refine ⟨?_, ?_⟩
  · intro y0 y1 y2
    unfold pat_twin.f
    repeat' first
    | (with_reducible exact ih0 _ _ _)
    | (with_reducible exact ih1 _ _ _ _ _ _)
    | (with_reducible exact LeO.refl _)
    | (with_reducible exact LeO.none _)
    | (with_reducible refine LeO.ite ?_ ?_)
    | (with_reducible refine LeO.bind ?_ (fun _ => ?_))
    | exact ih0 _ _ _
    | exact ih1 _ _ _ _ _ _
    | exact LeO.none _
    | refine LeO.ite ?_ ?_
    | refine LeO.bind ?_ (fun _ => ?_)
  · intro y0 y1 y2 y3 y4 y5
    unfold pat_twin.l0
    repeat' first
    | (with_reducible exact ih0 _ _ _)
    | (with_reducible exact ih1 _ _ _ _ _ _)
    | (with_reducible exact LeO.refl _)
    | (with_reducible exact LeO.none _)
    | (with_reducible refine LeO.ite ?_ ?_)
    | (with_reducible refine LeO.bind ?_ (fun _ => ?_))
    | exact ih0 _ _ _
    | exact ih1 _ _ _ _ _ _
    | exact LeO.none _
    | refine LeO.ite ?_ ?_
    | refine LeO.bind ?_ (fun _ => ?_)
theorem pat_twin.mono : ∀ a0 a1 a2 k, LeO (pat_twin.f k a0 a1 a2) (pat_twin.f (k + 1) a0 a1 a2) := by
 intro a0 a1 a2 k
 obtain ⟨ih0, ih1⟩ := pat_twin.mono_l k
 exact ih0 a0 a1 a2
def pat_twin.T1 : Bool × List (List Nat × List Nat) := (true, [([], []), ([0], [0]), ([], []), ([2], [2]), ([3], [3]), ([1, 4], [1, 4]), ([], []), ([6, 5, 4, 0, 1, 2, 3, 4, 5, 6], [5, 6])])
def pat_twin.B1 : List Nat := [0, 1, 0, 4, 12, 31, 0, 127]
theorem pat_twin.tab1 : rtab .any (opsOf Try.f50 1) = pat_twin.T1 := by kernel_rfl
theorem pat_twin.bits1 : waitsOk pat_twin.T1.2 pat_twin.B1 = true := by kernel_rfl
def pat_twin.T5 : Bool × List (List Nat × List Nat) := (true, [([], []), ([0], [0]), ([], []), ([2], [2]), ([3], [3]), ([1, 4, 3], [1, 4]), ([0, 1, 2, 3, 4, 5], []), ([6, 5, 5, 0, 1, 2, 3, 4, 5], [5, 6])])
def pat_twin.B5 : List Nat := [0, 1, 0, 4, 12, 31, 63, 127]
theorem pat_twin.tab5 : rtab .any (opsOf Try.f50 5) = pat_twin.T5 := by kernel_rfl
theorem pat_twin.bits5 : waitsOk pat_twin.T5.2 pat_twin.B5 = true := by kernel_rfl
set_option maxHeartbeats 8000000 in
set_option maxRecDepth 100000 in
theorem pat_twin.calls (k : Nat) : ∀ (a0_0 : Int) (A0_1 : Option Addr) (c0_1 : Nat) (l0_1 : List (S66)) (A0_2 : Option Addr) (c0_2 : Nat) (l0_2 : List (S25)) (r1 : Int) (r2 : List (S66)) (r3 : List (S25)) (w : World) (hr0_1 : Kd.C k66 w A0_1 l0_1.length l0_1) (hc0_1 : l0_1.length ≤ c0_1) (hr0_2 : Kd.C k25 w A0_2 l0_2.length l0_2) (hc0_2 : l0_2.length ≤ c0_2) (h : pat_twin.f k a0_0 l0_1 l0_2 = some (r1, r2, r3)),
 Calls Try.prog 50 #[.agg #[.int .i64 a0_0, .slice A0_1 l0_1.length c0_1, .slice A0_2 l0_2.length c0_2]] w fun e w' => ∃ v1_ v2_ : Value, e = .returned (.agg #[.int .i64 r1, v1_, v2_]) ∧ Kd.R k66 66 w' w.heap.size (fun _ => True) v1_ r2 ∧ Kd.R k25 25 w' w.heap.size (fun k_ => some k_ ≠ (v1_ : Value).ownBlock) v2_ r3 ∧ Below w.heap.size w w' := by
 induction k using Nat.strongRecOn with
 | _ k ih =>
 intro a0_0 A0_1 c0_1 l0_1 A0_2 c0_2 l0_2 r1 r2 r3 w hr0_1 hc0_1 hr0_2 hc0_2 h
 cases k with
 | zero => exact absurd h (by simp [pat_twin.f])
 | succ k =>
 simp only [pat_twin.f] at h
 have hu25 := Try.underlying25
 have HR0_1 := aM hr0_1
 have HC0_1 := aM hc0_1
 clear hr0_1 hc0_1
 have HR0_2 := aM hr0_2
 have HC0_2 := aM hc0_2
 clear hr0_2 hc0_2
 have HB := aM (Below.refl w.heap.size w)
 have H : ((api_Span_84.f l0_1).bind fun t163 => (pat_twin.l0 k l0_2 (l0_2.length : Int) 0 a0_0 t163 ([] : List (S25)))) = some (r1, r2, r3) := h
 clear h
 replace H := Option.bind_eq_some_iff.mp H
 obtain ⟨t163, A20, H⟩ := H
 replace H : (pat_twin.l0 k l0_2 (l0_2.length : Int) 0 a0_0 t163 ([] : List (S25))) = some (r1, r2, r3) := H
 have A2 := aM A20
 clear A20
 have H' := aM H
 clear H
 go_enter Try.func50, Try.ntmps50
 try go_wp2_with (first | ((with_reducible refine gate_dst (N := 1) rfl ?_); refine box_event ?hg (N := 1) ?hd (cs := #[.int .i64 a0_0, .slice A0_1 l0_1.length c0_1, .slice A0_2 l0_2.length c0_2]) (t := 25) ?hr ?_; (case hd => rfl); (case hg => rfl); (case hr => first | (go_simp; done) | (go_simp; rfl)); intro gb161 hg w3 hbox hb; have n0_ := aM (below_step (by repeat (first | (with_reducible first | exact HB.out | apply blA | apply blN | apply blD) | exact HB.out)) hb); have n1_ := aM (hbox); have n2_ := aM ((by rw [hg]; exact (below_size (by repeat (first | (with_reducible first | exact HB.out | apply blA | apply blN | apply blD) | exact HB.out))) : w.heap.size ≤ gb161)); have n3_ := aM ((by rw [hg]; exact (below_size (by repeat (first | (with_reducible first | exact HB.out | apply blA | apply blN | apply blD) | exact HB.out))) : w.heap.size ≤ gb161)); clear HB; have HB := n0_; have BK161 := n1_; have GW161 := n2_; have GE161 := n3_; clear n0_ n1_ n2_ n3_; clear hb hbox hg) | ((with_reducible refine gate_dst (N := 2) rfl ?_); refine box_event ?hg (N := 2) ?hd (cs := #[.int .i64 0, .slice none 0 0, .slice none 0 0]) (t := 25) ?hr ?_; (case hd => rfl); (case hg => rfl); (case hr => first | (go_simp; done) | (go_simp; rfl)); intro gb162 hg w4 hbox hb; have n0_ := aM (blk_below (g := gb161) (o := .cells #[.int .i64 a0_0, .slice A0_1 l0_1.length c0_1, .slice A0_2 l0_2.length c0_2] 25 (0, 0)) (by (with_reducible repeat (first | apply bkN | apply bkD | apply bkA)); exact BK161.out) hb); have n1_ := aM (below_step (by repeat (first | (with_reducible first | exact HB.out | apply blA | apply blN | apply blD | refine bS ?_ GE161.out) | exact HB.out)) hb); have n2_ := aM (hbox); have n3_ := aM ((by rw [hg]; exact (below_size (by repeat (first | (with_reducible first | exact HB.out | apply blA | apply blN | apply blD | refine bS ?_ GE161.out) | exact HB.out))) : w.heap.size ≤ gb162)); have n4_ := aM ((by rw [hg]; exact (below_size (by repeat (first | (with_reducible first | exact HB.out | apply blA | apply blN | apply blD | refine bS ?_ GE161.out) | exact HB.out))) : w.heap.size ≤ gb162)); have n5_ := aM ((by rw [hg]; exact Nat.ne_of_lt (blk_lt (g := gb161) (o := .cells #[.int .i64 a0_0, .slice A0_1 l0_1.length c0_1, .slice A0_2 l0_2.length c0_2] 25 (0, 0)) (by (with_reducible repeat (first | apply bkN | apply bkD | apply bkA)); exact BK161.out)) : gb161 ≠ gb162)); have n6_ := aM ((by rw [hg]; exact Nat.ne_of_gt (blk_lt (g := gb161) (o := .cells #[.int .i64 a0_0, .slice A0_1 l0_1.length c0_1, .slice A0_2 l0_2.length c0_2] 25 (0, 0)) (by (with_reducible repeat (first | apply bkN | apply bkD | apply bkA)); exact BK161.out)) : gb162 ≠ gb161)); clear BK161; clear HB; have BK161 := n0_; have HB := n1_; have BK162 := n2_; have GW162 := n3_; have GE162 := n4_; have NB161_162 := n5_; have NB162_161 := n6_; clear n0_ n1_ n2_ n3_ n4_ n5_ n6_; clear hb hbox hg))
 have n0_ := aM (blk_drew BK161.out)
 have n1_ := aM (blk_drew BK162.out)
 have n2_ := aM (below_drew1 HB.out)
 clear BK161
 clear BK162
 clear HB
 have BK161 := n0_
 have BK162 := n1_
 have HB := n2_
 clear n0_ n1_ n2_
 refine start_ (n := 8) (S := fun w' => w'.cell? ⟨gb161, 0, none⟩ = some (.int .i64 a0_0) ∧ w'.cell? ⟨gb161, 1, none⟩ = some (.slice A0_1 l0_1.length c0_1) ∧ w'.cell? ⟨gb161, 2, none⟩ = some (.slice A0_2 l0_2.length c0_2)) (ds := []) #[false, false, false, false, false, false, false, false] (by kernel_rfl) rfl rfl ⟨(blk_cell BK161.out 0).trans rfl, (blk_cell BK161.out 1).trans rfl, (blk_cell BK161.out 2).trans rfl⟩ (fun hHeld => ?_); refine with_tabW pat_twin.tab1 pat_twin.bits1 (fun HT_ HW_ => ?_)
 generalize w4.drew = w5 at BK161 BK162 HB hHeld ⊢
 refine pure_ (i := 0) (N := some 6) (v := ?_) (a' := ?_) #[true, false, false, false, false, false, false, false] rfl rfl (any_of HT_.out (by kernel_rfl)) (fun _ _ _ h => h) (Or.inl ⟨by rfl, ?_⟩) ?_ ?_
 rotate_left
 · intro w'
   go_simp
   with_reducible rfl
 rotate_left
 · simp only [Act.put, List.setIfInBounds_toArray, List.set_cons_zero, List.set_cons_succ, i64_w, i32_w]
   rfl
 refine pure_ (i := 2) (N := some 8) (v := ?_) (a' := ?_) #[true, false, true, false, false, false, false, false] rfl rfl (any_of HT_.out (by kernel_rfl)) (fun _ _ _ h => h) (Or.inl ⟨by rfl, ?_⟩) ?_ ?_
 rotate_left
 · intro w'
   go_simp
   with_reducible rfl
 rotate_left
 · simp only [Act.put, List.setIfInBounds_toArray, List.set_cons_zero, List.set_cons_succ, i64_w, i32_w]
   rfl
 refine take_ (i := 1) (N := some 7) (v := ?_) (a' := ?_) #[true, true, true, false, false, false, false, false] rfl rfl (take_ofW HT_.out HW_.out (by kernel_rfl)) (fun _ _ _ h => h) (Or.inl ⟨by rfl, ?_⟩) hHeld ?_ ?_
 rotate_left
 · rintro w' ⟨s0, s1, s2⟩
   go_simp
   with_reducible rfl
 rotate_left
 · simp only [Act.put, List.setIfInBounds_toArray, List.set_cons_zero, List.set_cons_succ, i64_w, i32_w]
   rfl
 refine take_ (i := 3) (N := some 9) (v := ?_) (a' := ?_) #[true, true, true, true, false, false, false, false] rfl rfl (take_ofW HT_.out HW_.out (by kernel_rfl)) (fun _ _ _ h => h) (Or.inl ⟨by rfl, ?_⟩) hHeld ?_ ?_
 rotate_left
 · rintro w' ⟨s0, s1, s2⟩
   go_simp
   with_reducible rfl
 rotate_left
 · simp only [Act.put, List.setIfInBounds_toArray, List.set_cons_zero, List.set_cons_succ, i64_w, i32_w]
   rfl
 refine join_ (σ := Value × Nat) 1 #[true, true, true, true, true, true, true, false] (fun s_ => [(10, s_.1), (3, .pointer (some ⟨s_.2, 0, none⟩)), (11, .agg #[.int .i64 a0_0, s_.1, .slice none 0 0])]) (fun s_ w' => (w'.cell? ⟨gb161, 0, none⟩ = some (.int .i64 a0_0) ∧ w'.cell? ⟨gb161, 1, none⟩ = some (.slice A0_1 l0_1.length c0_1) ∧ w'.cell? ⟨gb161, 2, none⟩ = some (.slice A0_2 l0_2.length c0_2)) ∧ (Kd.R k66 66 w' w.heap.size (fun _ => True) s_.1 t163) ∧ (w'.heap[gb161]? = some (.cells #[.int .i64 a0_0, .slice A0_1 l0_1.length c0_1, .slice A0_2 l0_2.length c0_2] 25 (0, 0))) ∧ (w'.heap[gb162]? = some (.cells #[.int .i64 0, .slice none 0 0, .slice none 0 0] 25 (0, 0))) ∧ (w'.heap[s_.2]? = some (.cells #[.int .i64 0, .slice none 0 0, .slice none 0 0] 25 (0, 0))) ∧ (w.heap.size ≤ s_.2) ∧ (w.heap.size ≤ s_.2) ∧ (gb161 ≠ s_.2) ∧ (s_.2 ≠ gb161) ∧ (gb162 ≠ s_.2) ∧ (s_.2 ≠ gb162) ∧ (Below w.heap.size w w')) ?_ ?_
 rotate_left
 · intro hCont
   refine two_ (i := 4) (j := 6) (Ni := some 10) (Nj := some 3) #[true, true, true, true, true, false, false, false] #[true, true, true, true, false, false, true, false] rfl rfl rfl rfl (two_of HT_.out (by kernel_rfl)) (by decide) (by decide) (fun K hK => ?_) (fun K hK => ?_)
   · skip
     refine goes_ Try.func84 (by kernel_rfl) rfl #[.slice A0_1 l0_1.length c0_1] (by rfl) rfl rfl (by (try simp only [List.map_toArray, List.map_cons, List.map_nil]); first | done | rfl | (simp only [List.length_drop, List.length_take]; rfl)) ?_
     with_reducible refine (api_Span_84.calls _ _ l0_1 t163 _ ?side1 ?side2 A2.out).mono ?_
     (case side1 => repeat (first | exact (Kd.C_below HR0_1.out HB.out) | (with_reducible refine Kd.C_alloc ?_ _) | (with_reducible refine Kd.C_drewN ?_ _) | (with_reducible refine Kd.C_drew ?_)))
     (case side2 => exact HC0_1.out)
     rintro e w6 ⟨v164, rfl, ho0, hb⟩
     refine ⟨_, rfl, ?_⟩
     have n0_ := aM (Kd.R_lower ho0 (below_size (by repeat (first | (with_reducible first | exact HB.out | apply blA | apply blN | apply blD | refine bS ?_ GE161.out | refine bS ?_ GE162.out) | exact HB.out))))
     have n1_ := aM (blk_below (g := gb161) (o := .cells #[.int .i64 a0_0, .slice A0_1 l0_1.length c0_1, .slice A0_2 l0_2.length c0_2] 25 (0, 0)) (by (with_reducible repeat (first | apply bkN | apply bkD | apply bkA)); exact BK161.out) hb)
     have n2_ := aM (blk_below (g := gb162) (o := .cells #[.int .i64 0, .slice none 0 0, .slice none 0 0] 25 (0, 0)) (by (with_reducible repeat (first | apply bkN | apply bkD | apply bkA)); exact BK162.out) hb)
     have n3_ := aM (below_step (by repeat (first | (with_reducible first | exact HB.out | apply blA | apply blN | apply blD | refine bS ?_ GE161.out | refine bS ?_ GE162.out) | exact HB.out)) hb)
     clear BK161
     clear BK162
     clear HB
     have HO165 := n0_
     have BK161 := n1_
     have BK162 := n2_
     have HB := n3_
     clear n0_ n1_ n2_ n3_
     (try clear hb)
     (try clear hb2)
     (try clear hk)
     (try clear hi)
     (try clear ho0)
     obtain ⟨Ao7, co7, eo7⟩ := Kd.R_slice HO165.out
     (first | subst eo7 | (injection eo7 with f1_ f2_ f3_; have f4_ := f1_.symm; have f5_ := f3_.symm; clear f1_ f2_ f3_; subst f4_; subst f5_))
     refine hK.out _ _ ⟨(blk_cell BK161.out 0).trans rfl, (blk_cell BK161.out 1).trans rfl, (blk_cell BK161.out 2).trans rfl⟩ (fun hHeld => ?_)
     clear hK K
     refine norm_ (a' := ?_) ?_ ?_
     rotate_left
     · show Act.put _ (some 10) _ = _
       simp only [Act.put, List.setIfInBounds_toArray, List.set_cons_zero, List.set_cons_succ, i64_w, i32_w]
       rfl
     refine pure_ (i := 5) (N := some 11) (v := ?_) (a' := ?_) #[true, true, true, true, true, true, false, false] rfl rfl (any_of HT_.out (by kernel_rfl)) (fun _ _ _ h => h) (Or.inl ⟨by rfl, ?_⟩) ?_ ?_
     rotate_left
     · intro w'
       go_simp
       with_reducible rfl
     rotate_left
     · simp only [Act.put, List.setIfInBounds_toArray, List.set_cons_zero, List.set_cons_succ, i64_w, i32_w]
       rfl
     refine one_ (i := 6) (N := some 3) #[true, true, true, true, true, true, true, false] rfl rfl (one_of HT_.out (by kernel_rfl)) (by decide) (fun K hK => ?_)
     refine box_step ?hg (N := 3) ?hd (cs := #[.int .i64 0, .slice none 0 0, .slice none 0 0]) (t := 25) ?hr ?_; (case hd => rfl); (case hg => rfl); (case hr => first | (go_simp; done) | (go_simp; rfl))
     intro gb166 hg w8 hbox hb
     have n0_ := aM (Kd.R_below (by (with_reducible repeat (first | apply kA | apply kN | apply kD)); exact HO165.out) hb)
     have n1_ := aM (blk_below (g := gb161) (o := .cells #[.int .i64 a0_0, .slice A0_1 l0_1.length c0_1, .slice A0_2 l0_2.length c0_2] 25 (0, 0)) (by (with_reducible repeat (first | apply bkN | apply bkD | apply bkA)); exact BK161.out) hb)
     have n2_ := aM (blk_below (g := gb162) (o := .cells #[.int .i64 0, .slice none 0 0, .slice none 0 0] 25 (0, 0)) (by (with_reducible repeat (first | apply bkN | apply bkD | apply bkA)); exact BK162.out) hb)
     have n3_ := aM (below_step (by repeat (first | (with_reducible first | exact HB.out | apply blA | apply blN | apply blD | refine bS ?_ GE161.out | refine bS ?_ GE162.out) | exact HB.out)) hb)
     have n4_ := aM (hbox)
     have n5_ := aM ((by rw [hg]; exact (below_size (by repeat (first | (with_reducible first | exact HB.out | apply blA | apply blN | apply blD | refine bS ?_ GE161.out | refine bS ?_ GE162.out) | exact HB.out))) : w.heap.size ≤ gb166))
     have n6_ := aM ((by rw [hg]; exact (below_size (by repeat (first | (with_reducible first | exact HB.out | apply blA | apply blN | apply blD | refine bS ?_ GE161.out | refine bS ?_ GE162.out) | exact HB.out))) : w.heap.size ≤ gb166))
     have n7_ := aM ((by rw [hg]; exact Nat.ne_of_lt (blk_lt (g := gb161) (o := .cells #[.int .i64 a0_0, .slice A0_1 l0_1.length c0_1, .slice A0_2 l0_2.length c0_2] 25 (0, 0)) (by (with_reducible repeat (first | apply bkN | apply bkD | apply bkA)); exact BK161.out)) : gb161 ≠ gb166))
     have n8_ := aM ((by rw [hg]; exact Nat.ne_of_gt (blk_lt (g := gb161) (o := .cells #[.int .i64 a0_0, .slice A0_1 l0_1.length c0_1, .slice A0_2 l0_2.length c0_2] 25 (0, 0)) (by (with_reducible repeat (first | apply bkN | apply bkD | apply bkA)); exact BK161.out)) : gb166 ≠ gb161))
     have n9_ := aM ((by rw [hg]; exact Nat.ne_of_lt (blk_lt (g := gb162) (o := .cells #[.int .i64 0, .slice none 0 0, .slice none 0 0] 25 (0, 0)) (by (with_reducible repeat (first | apply bkN | apply bkD | apply bkA)); exact BK162.out)) : gb162 ≠ gb166))
     have n10_ := aM ((by rw [hg]; exact Nat.ne_of_gt (blk_lt (g := gb162) (o := .cells #[.int .i64 0, .slice none 0 0, .slice none 0 0] 25 (0, 0)) (by (with_reducible repeat (first | apply bkN | apply bkD | apply bkA)); exact BK162.out)) : gb166 ≠ gb162))
     clear HO165
     clear BK161
     clear BK162
     clear HB
     have HO165 := n0_
     have BK161 := n1_
     have BK162 := n2_
     have HB := n3_
     have BK166 := n4_
     have GW166 := n5_
     have GE166 := n6_
     have NB161_166 := n7_
     have NB166_161 := n8_
     have NB162_166 := n9_
     have NB166_162 := n10_
     clear n0_ n1_ n2_ n3_ n4_ n5_ n6_ n7_ n8_ n9_ n10_
     clear hb hbox hg
     refine hK.out _ _ ⟨(blk_cell BK161.out 0).trans rfl, (blk_cell BK161.out 1).trans rfl, (blk_cell BK161.out 2).trans rfl⟩ (fun hHeld => ?_)
     clear hK K
     refine norm_ (a' := ?_) ?_ ?_
     rotate_left
     · show Act.put _ (some 3) _ = _
       simp only [Act.put, List.setIfInBounds_toArray, List.set_cons_zero, List.set_cons_succ, i64_w, i32_w]
       rfl
     exact norm_ (by simp only [putAll, Act.put, List.setIfInBounds_toArray, List.set_cons_zero, List.set_cons_succ]) (hCont (.slice Ao7 t163.length co7, gb166) _ ⟨hHeld, (by (with_reducible repeat (first | apply kA | apply kN | apply kD)); exact HO165.out), (by (with_reducible repeat (first | apply bkN | apply bkD | apply bkA)); exact BK161.out), (by (with_reducible repeat (first | apply bkN | apply bkD | apply bkA)); exact BK162.out), (by (with_reducible repeat (first | apply bkN | apply bkD | apply bkA)); exact BK166.out), GW166.out, GE166.out, NB161_166.out, NB166_161.out, NB162_166.out, NB166_162.out, (by repeat (first | (with_reducible first | exact HB.out | apply blA | apply blN | apply blD | refine bS ?_ GE161.out | refine bS ?_ GE162.out | refine bS ?_ GE166.out) | exact HB.out))⟩)
   · skip
     refine box_step ?hg (N := 3) ?hd (cs := #[.int .i64 0, .slice none 0 0, .slice none 0 0]) (t := 25) ?hr ?_; (case hd => rfl); (case hg => rfl); (case hr => first | (go_simp; done) | (go_simp; rfl))
     intro gb166 hg w6 hbox hb
     have n0_ := aM (blk_below (g := gb161) (o := .cells #[.int .i64 a0_0, .slice A0_1 l0_1.length c0_1, .slice A0_2 l0_2.length c0_2] 25 (0, 0)) (by (with_reducible repeat (first | apply bkN | apply bkD | apply bkA)); exact BK161.out) hb)
     have n1_ := aM (blk_below (g := gb162) (o := .cells #[.int .i64 0, .slice none 0 0, .slice none 0 0] 25 (0, 0)) (by (with_reducible repeat (first | apply bkN | apply bkD | apply bkA)); exact BK162.out) hb)
     have n2_ := aM (below_step (by repeat (first | (with_reducible first | exact HB.out | apply blA | apply blN | apply blD | refine bS ?_ GE161.out | refine bS ?_ GE162.out) | exact HB.out)) hb)
     have n3_ := aM (hbox)
     have n4_ := aM ((by rw [hg]; exact (below_size (by repeat (first | (with_reducible first | exact HB.out | apply blA | apply blN | apply blD | refine bS ?_ GE161.out | refine bS ?_ GE162.out) | exact HB.out))) : w.heap.size ≤ gb166))
     have n5_ := aM ((by rw [hg]; exact (below_size (by repeat (first | (with_reducible first | exact HB.out | apply blA | apply blN | apply blD | refine bS ?_ GE161.out | refine bS ?_ GE162.out) | exact HB.out))) : w.heap.size ≤ gb166))
     have n6_ := aM ((by rw [hg]; exact Nat.ne_of_lt (blk_lt (g := gb161) (o := .cells #[.int .i64 a0_0, .slice A0_1 l0_1.length c0_1, .slice A0_2 l0_2.length c0_2] 25 (0, 0)) (by (with_reducible repeat (first | apply bkN | apply bkD | apply bkA)); exact BK161.out)) : gb161 ≠ gb166))
     have n7_ := aM ((by rw [hg]; exact Nat.ne_of_gt (blk_lt (g := gb161) (o := .cells #[.int .i64 a0_0, .slice A0_1 l0_1.length c0_1, .slice A0_2 l0_2.length c0_2] 25 (0, 0)) (by (with_reducible repeat (first | apply bkN | apply bkD | apply bkA)); exact BK161.out)) : gb166 ≠ gb161))
     have n8_ := aM ((by rw [hg]; exact Nat.ne_of_lt (blk_lt (g := gb162) (o := .cells #[.int .i64 0, .slice none 0 0, .slice none 0 0] 25 (0, 0)) (by (with_reducible repeat (first | apply bkN | apply bkD | apply bkA)); exact BK162.out)) : gb162 ≠ gb166))
     have n9_ := aM ((by rw [hg]; exact Nat.ne_of_gt (blk_lt (g := gb162) (o := .cells #[.int .i64 0, .slice none 0 0, .slice none 0 0] 25 (0, 0)) (by (with_reducible repeat (first | apply bkN | apply bkD | apply bkA)); exact BK162.out)) : gb166 ≠ gb162))
     clear BK161
     clear BK162
     clear HB
     have BK161 := n0_
     have BK162 := n1_
     have HB := n2_
     have BK166 := n3_
     have GW166 := n4_
     have GE166 := n5_
     have NB161_166 := n6_
     have NB166_161 := n7_
     have NB162_166 := n8_
     have NB166_162 := n9_
     clear n0_ n1_ n2_ n3_ n4_ n5_ n6_ n7_ n8_ n9_
     clear hb hbox hg
     refine hK.out _ _ ⟨(blk_cell BK161.out 0).trans rfl, (blk_cell BK161.out 1).trans rfl, (blk_cell BK161.out 2).trans rfl⟩ (fun hHeld => ?_)
     clear hK K
     refine norm_ (a' := ?_) ?_ ?_
     rotate_left
     · show Act.put _ (some 3) _ = _
       simp only [Act.put, List.setIfInBounds_toArray, List.set_cons_zero, List.set_cons_succ, i64_w, i32_w]
       rfl
     refine one_ (i := 4) (N := some 10) #[true, true, true, true, true, false, true, false] rfl rfl (one_of HT_.out (by kernel_rfl)) (by decide) (fun K hK => ?_)
     refine goes_ Try.func84 (by kernel_rfl) rfl #[.slice A0_1 l0_1.length c0_1] (by rfl) rfl rfl (by (try simp only [List.map_toArray, List.map_cons, List.map_nil]); first | done | rfl | (simp only [List.length_drop, List.length_take]; rfl)) ?_
     with_reducible refine (api_Span_84.calls _ _ l0_1 t163 _ ?side1 ?side2 A2.out).mono ?_
     (case side1 => repeat (first | exact (Kd.C_below HR0_1.out HB.out) | (with_reducible refine Kd.C_alloc ?_ _) | (with_reducible refine Kd.C_drewN ?_ _) | (with_reducible refine Kd.C_drew ?_)))
     (case side2 => exact HC0_1.out)
     rintro e w7 ⟨v164, rfl, ho0, hb⟩
     refine ⟨_, rfl, ?_⟩
     have n0_ := aM (Kd.R_lower ho0 (below_size (by repeat (first | (with_reducible first | exact HB.out | apply blA | apply blN | apply blD | refine bS ?_ GE161.out | refine bS ?_ GE162.out | refine bS ?_ GE166.out) | exact HB.out))))
     have n1_ := aM (blk_below (g := gb161) (o := .cells #[.int .i64 a0_0, .slice A0_1 l0_1.length c0_1, .slice A0_2 l0_2.length c0_2] 25 (0, 0)) (by (with_reducible repeat (first | apply bkN | apply bkD | apply bkA)); exact BK161.out) hb)
     have n2_ := aM (blk_below (g := gb162) (o := .cells #[.int .i64 0, .slice none 0 0, .slice none 0 0] 25 (0, 0)) (by (with_reducible repeat (first | apply bkN | apply bkD | apply bkA)); exact BK162.out) hb)
     have n3_ := aM (blk_below (g := gb166) (o := .cells #[.int .i64 0, .slice none 0 0, .slice none 0 0] 25 (0, 0)) (by (with_reducible repeat (first | apply bkN | apply bkD | apply bkA)); exact BK166.out) hb)
     have n4_ := aM (below_step (by repeat (first | (with_reducible first | exact HB.out | apply blA | apply blN | apply blD | refine bS ?_ GE161.out | refine bS ?_ GE162.out | refine bS ?_ GE166.out) | exact HB.out)) hb)
     clear BK161
     clear BK162
     clear BK166
     clear HB
     have HO165 := n0_
     have BK161 := n1_
     have BK162 := n2_
     have BK166 := n3_
     have HB := n4_
     clear n0_ n1_ n2_ n3_ n4_
     (try clear hb)
     (try clear hb2)
     (try clear hk)
     (try clear hi)
     (try clear ho0)
     obtain ⟨Ao8, co8, eo8⟩ := Kd.R_slice HO165.out
     (first | subst eo8 | (injection eo8 with f1_ f2_ f3_; have f4_ := f1_.symm; have f5_ := f3_.symm; clear f1_ f2_ f3_; subst f4_; subst f5_))
     refine hK.out _ _ ⟨(blk_cell BK161.out 0).trans rfl, (blk_cell BK161.out 1).trans rfl, (blk_cell BK161.out 2).trans rfl⟩ (fun hHeld => ?_)
     clear hK K
     refine norm_ (a' := ?_) ?_ ?_
     rotate_left
     · show Act.put _ (some 10) _ = _
       simp only [Act.put, List.setIfInBounds_toArray, List.set_cons_zero, List.set_cons_succ, i64_w, i32_w]
       rfl
     refine pure_ (i := 5) (N := some 11) (v := ?_) (a' := ?_) #[true, true, true, true, true, true, true, false] rfl rfl (any_of HT_.out (by kernel_rfl)) (fun _ _ _ h => h) (Or.inl ⟨by rfl, ?_⟩) ?_ ?_
     rotate_left
     · intro w'
       go_simp
       with_reducible rfl
     rotate_left
     · simp only [Act.put, List.setIfInBounds_toArray, List.set_cons_zero, List.set_cons_succ, i64_w, i32_w]
       rfl
     exact norm_ (by simp only [putAll, Act.put, List.setIfInBounds_toArray, List.set_cons_zero, List.set_cons_succ]) (hCont (.slice Ao8 t163.length co8, gb166) _ ⟨hHeld, (by (with_reducible repeat (first | apply kA | apply kN | apply kD)); exact HO165.out), (by (with_reducible repeat (first | apply bkN | apply bkD | apply bkA)); exact BK161.out), (by (with_reducible repeat (first | apply bkN | apply bkD | apply bkA)); exact BK162.out), (by (with_reducible repeat (first | apply bkN | apply bkD | apply bkA)); exact BK166.out), GW166.out, GE166.out, NB161_166.out, NB166_161.out, NB162_166.out, NB166_162.out, (by repeat (first | (with_reducible first | exact HB.out | apply blA | apply blN | apply blD | refine bS ?_ GE161.out | refine bS ?_ GE162.out | refine bS ?_ GE166.out) | exact HB.out))⟩)
 rintro ⟨v164, gb166⟩ w9 ⟨hS_, h0_, h1_, h2_, h3_, h4_, h5_, h6_, h7_, h8_, h9_, h10_⟩
 have n0_ : Aside0 (Kd.R k66 66 w9 w.heap.size (fun _ => True) v164 t163) := ⟨h0_⟩
 have n1_ : Aside0 (w9.heap[gb161]? = some (.cells #[.int .i64 a0_0, .slice A0_1 l0_1.length c0_1, .slice A0_2 l0_2.length c0_2] 25 (0, 0))) := ⟨h1_⟩
 have n2_ : Aside0 (w9.heap[gb162]? = some (.cells #[.int .i64 0, .slice none 0 0, .slice none 0 0] 25 (0, 0))) := ⟨h2_⟩
 have n3_ : Aside0 (w9.heap[gb166]? = some (.cells #[.int .i64 0, .slice none 0 0, .slice none 0 0] 25 (0, 0))) := ⟨h3_⟩
 have n4_ : Aside0 (w.heap.size ≤ gb166) := ⟨h4_⟩
 have n5_ : Aside0 (w.heap.size ≤ gb166) := ⟨h5_⟩
 have n6_ : Aside0 (gb161 ≠ gb166) := ⟨h6_⟩
 have n7_ : Aside0 (gb166 ≠ gb161) := ⟨h7_⟩
 have n8_ : Aside0 (gb162 ≠ gb166) := ⟨h8_⟩
 have n9_ : Aside0 (gb166 ≠ gb162) := ⟨h9_⟩
 have n10_ : Aside0 (Below w.heap.size w w9) := ⟨h10_⟩
 clear BK161
 clear BK162
 clear HB
 clear h0_ h1_ h2_ h3_ h4_ h5_ h6_ h7_ h8_ h9_ h10_
 have HO165 := n0_
 have BK161 := n1_
 have BK162 := n2_
 have BK166 := n3_
 have GW166 := n4_
 have GE166 := n5_
 have NB161_166 := n6_
 have NB166_161 := n7_
 have NB162_166 := n8_
 have NB166_162 := n9_
 have HB := n10_
 clear n0_ n1_ n2_ n3_ n4_ n5_ n6_ n7_ n8_ n9_ n10_
 have hHeld : w9.cell? ⟨gb161, 0, none⟩ = some (.int .i64 a0_0) ∧ w9.cell? ⟨gb161, 1, none⟩ = some (.slice A0_1 l0_1.length c0_1) ∧ w9.cell? ⟨gb161, 2, none⟩ = some (.slice A0_2 l0_2.length c0_2) := hS_
 obtain ⟨Ao10, co10, eo10⟩ := Kd.R_slice HO165.out
 (first | subst eo10 | (injection eo10 with f1_ f2_ f3_; have f4_ := f1_.symm; have f5_ := f3_.symm; clear f1_ f2_ f3_; subst f4_; subst f5_))
 refine norm_ (a' := ?_) ?_ ?_
 rotate_left
 · simp only [putAll, Act.put, List.setIfInBounds_toArray, List.set_cons_zero, List.set_cons_succ]
   rfl
 refine one_ (i := 7) (N := none) #[true, true, true, true, true, true, true, true] rfl rfl (one_of HT_.out (by kernel_rfl)) (by decide) (fun K hK => ?_)
 have hs11 : w9.cell? ⟨gb166, 0, none⟩ = some (.int .i64 0) := (blk_cell BK166.out 0).trans rfl
 have hfs11 := bF BK166.out 0
 have hns11_0 := NB161_166.out
 have hns11_1 := NB162_166.out
 have hms11_0 := NB166_161.out
 have hms11_1 := NB166_162.out
 have hs12 : w9.cell? ⟨gb166, 1, none⟩ = some (.slice none 0 0) := (blk_cell BK166.out 1).trans rfl
 have hfs12 := bF BK166.out 1
 have hns12_0 := NB161_166.out
 have hns12_1 := NB162_166.out
 have hms12_0 := NB166_161.out
 have hms12_1 := NB166_162.out
 have hs13 : w9.cell? ⟨gb166, 2, none⟩ = some (.slice none 0 0) := (blk_cell BK166.out 2).trans rfl
 have hfs13 := bF BK166.out 2
 have hns13_0 := NB161_166.out
 have hns13_1 := NB162_166.out
 have hms13_0 := NB166_161.out
 have hms13_1 := NB166_162.out
 refine skip_ (w1 := ?_) (by rfl) rfl ?_ ?_
 rotate_left
 · go_simp
   rfl
 refine hK.out _ _ ⟨((cell_far (p := ⟨gb166, _, none⟩) NB161_166.out _).trans (((cell_far (p := ⟨gb166, _, none⟩) NB161_166.out _).trans (((cell_far (p := ⟨gb166, _, none⟩) NB161_166.out _).trans (hHeld.1)))))), ((cell_far (p := ⟨gb166, _, none⟩) NB161_166.out _).trans (((cell_far (p := ⟨gb166, _, none⟩) NB161_166.out _).trans (((cell_far (p := ⟨gb166, _, none⟩) NB161_166.out _).trans (hHeld.2.1)))))), ((cell_far (p := ⟨gb166, _, none⟩) NB161_166.out _).trans (((cell_far (p := ⟨gb166, _, none⟩) NB161_166.out _).trans (((cell_far (p := ⟨gb166, _, none⟩) NB161_166.out _).trans (hHeld.2.2))))))⟩ (fun hHeld => ?_)
 clear hK K
 refine done_ (done_of HT_.out (by kernel_rfl)) ?_
 have hnb14 := NB161_162.out
 have hnc14 := NB162_161.out
 have hnb15 := NB161_166.out
 have hnc15 := NB166_161.out
 have hcz16_0 : w9.cell? ⟨gb161, 0, none⟩ = some (.int .i64 a0_0) := (blk_cell BK161.out 0).trans rfl
 have hcz16_1 : w9.cell? ⟨gb161, 1, none⟩ = some (.slice A0_1 l0_1.length c0_1) := (blk_cell BK161.out 1).trans rfl
 have hcz16_2 : w9.cell? ⟨gb161, 2, none⟩ = some (.slice A0_2 l0_2.length c0_2) := (blk_cell BK161.out 2).trans rfl
 have hfz16_0 := bF BK161.out 0
 have hfz16_1 := bF BK161.out 1
 have hfz16_2 := bF BK161.out 2
 try go_wp2
 go_loopg [15] k (fun kq v15 w' => ∃ (x15_1 : Int) (x167002_1 : List (S25)) (u167002 : Value), v15 = .int .i64 x15_1 ∧ Aside0 (pat_twin.l0 kq l0_2 (l0_2.length : Int) x15_1 a0_0 t163 x167002_1 = some (r1, r2, r3)) ∧ Aside0 (kq ≤ k) ∧ Aside0 (Kd.R k66 66 w' w.heap.size (fun _ => True) (.slice Ao10 t163.length co10) t163) ∧ Aside0 (Kd.R k25 25 w' w.heap.size (fun k_ => some k_ ≠ ((.slice Ao10 t163.length co10) : Value).ownBlock ∧ k_ ≠ gb161 ∧ k_ ≠ gb162 ∧ k_ ≠ gb166) u167002 x167002_1) ∧ Aside0 (w'.heap[gb161]? = some (.cells #[.int .i64 a0_0, (.slice A0_1 l0_1.length c0_1), (.slice A0_2 l0_2.length c0_2)] 25 (0, 0))) ∧ Aside0 (w'.heap[gb162]? = some (.cells #[.int .i64 0, (.slice none 0 0), (.slice none 0 0)] 25 (0, 0))) ∧ Aside0 (w'.heap[gb166]? = some (.cells #[.int .i64 a0_0, (.slice Ao10 t163.length co10), u167002] 25 (0, 0))) ∧ Aside0 (Below w.heap.size w w'))
 case atStart => exact ⟨(0), (([] : List (S25))), (.slice none 0 0), (by first | rfl | (simp; done) | (simp [*]; done)), H', ⟨Nat.le_refl _⟩, ⟨by (with_reducible repeat (first | apply kA | apply kN | apply kD)); exact Kd.R_mono (Kd.R_far (p := ⟨gb166, 2, none⟩) (Kd.R_far (p := ⟨gb166, 1, none⟩) (Kd.R_far (p := ⟨gb166, 0, none⟩) (Kd.R_types HO165.out BK166.out (by decide)) (fun _ hk => hk.2) (.int .i64 a0_0)) (fun _ hk => hk.2) (.slice Ao10 t163.length co10)) (fun _ hk => hk.2) (.slice none 0 0)) (fun _ hk => trivial)⟩, ⟨by first | exact Kd.R_nil _ _ _ _ _ | exact Kd.N_nil _ _ _ _ _ | exact Kd.V_nil _ _ _ _ _ | exact Kd.Q_nil _ _ _ _ _ | exact Kd.S_nil _ _ _ _ _⟩, ⟨by (with_reducible repeat (first | apply bkN | apply bkD | apply bkA)); refine blk_far ?_ NB161_166.out _; (with_reducible repeat (first | apply bkN | apply bkD | apply bkA)); refine blk_far ?_ NB161_166.out _; (with_reducible repeat (first | apply bkN | apply bkD | apply bkA)); refine blk_far ?_ NB161_166.out _; (with_reducible repeat (first | apply bkN | apply bkD | apply bkA)); exact BK161.out⟩, ⟨by (with_reducible repeat (first | apply bkN | apply bkD | apply bkA)); refine blk_far ?_ NB162_166.out _; (with_reducible repeat (first | apply bkN | apply bkD | apply bkA)); refine blk_far ?_ NB162_166.out _; (with_reducible repeat (first | apply bkN | apply bkD | apply bkA)); refine blk_far ?_ NB162_166.out _; (with_reducible repeat (first | apply bkN | apply bkD | apply bkA)); exact BK162.out⟩, ⟨by (with_reducible repeat (first | apply bkN | apply bkD | apply bkA)); refine blk_put (cs := #[.int .i64 a0_0, .slice Ao10 t163.length co10, .slice none 0 0]) ?_ 2 _ rfl; (with_reducible repeat (first | apply bkN | apply bkD | apply bkA)); refine blk_put (cs := #[.int .i64 a0_0, .slice none 0 0, .slice none 0 0]) ?_ 1 _ rfl; (with_reducible repeat (first | apply bkN | apply bkD | apply bkA)); refine blk_put (cs := #[.int .i64 0, .slice none 0 0, .slice none 0 0]) ?_ 0 _ rfl; (with_reducible repeat (first | apply bkN | apply bkD | apply bkA)); exact BK166.out⟩, ⟨by repeat (first | (with_reducible first | exact HB.out | apply blA | apply blN | apply blD | refine bS ?_ GE161.out | refine bS ?_ GE162.out | refine bS ?_ GE166.out) | exact HB.out)⟩⟩
 case round =>
  clear H'
  obtain ⟨x15_1, x167002_1, u167002, rfl, HA, HK1, HO_167001, HO_167002, BK161, BK162, BK166, HB⟩ := hrel
  cases gk with
  | zero => exact absurd HA.out (by simp [pat_twin.l0])
  | succ k1 =>
   have H := HA.out
   clear HA
   simp only [pat_twin.l0] at H
   by_cases c17 : x15_1 < (l0_2.length : Int)
   · rw [if_pos c17] at H
     have c17b0 : decide (x15_1 < (l0_2.length : Int)) = true := decide_eq_true c17
     clear c17
     by_cases c18 : 0 ≤ x15_1
     · rw [if_pos c18] at H
       have c18b0 : decide (0 ≤ x15_1) = true := decide_eq_true c18
       clear c18
       by_cases c19 : x15_1 < (l0_2.length : Int)
       · rw [if_pos c19] at H
         have c19b0 : decide (x15_1 < (l0_2.length : Int)) = true := decide_eq_true c19
         clear c19
         replace H := Option.bind_eq_some_iff.mp H
         obtain ⟨⟨t169, t170, t173⟩, A200, H⟩ := H
         replace H : (if x167002_1.length < 2513169434916 then (pat_twin.l0 k1 l0_2 (l0_2.length : Int) (wrap64 (x15_1 + 1)) a0_0 t163 (x167002_1 ++ [(⟨t169, t170, t173⟩ : S25)])) else (none)) = some (r1, r2, r3) := H
         have A20 := aM A200
         clear A200
         by_cases c21 : x167002_1.length < 2513169434916
         · rw [if_pos c21] at H
           have LMc21 := aM c21
           clear c21
           obtain ⟨y176, hy176⟩ : ∃ y_ : List (S25), y_ = (x167002_1 ++ [(⟨t169, t170, t173⟩ : S25)]) := ⟨_, rfl⟩
           replace H : (pat_twin.l0 k1 l0_2 (l0_2.length : Int) (wrap64 (x15_1 + 1)) a0_0 t163 y176) = some (r1, r2, r3) := by first | (rw [hy176]; with_reducible exact H) | (have H2_ := (Option.bind_some _ _).symm.trans H; rw [hy176]; with_reducible exact H2_) | (have H2_ := (Option.bind_some _ _).symm.trans H; with_reducible exact H2_) | with_reducible exact H | (rw [hy176]; exact H) | exact H
           have Ny176 := aM hy176
           clear hy176
           have H' := aM H
           clear H
           have p167 : 0 ≤ (x15_1 : Int) := of_decide_eq_true (by first | (with_reducible assumption) | assumption)
           have q167 : x15_1 < (l0_2.length : Int) := of_decide_eq_true (by first | (with_reducible assumption) | assumption)
           obtain ⟨ad167, A167_1, c167_1, A167_2, c167_2, e167, hx167_0, hx167_1, hx167_2, hl167_1, hi167_1, hl167_2, hi167_2⟩ := at_T25 HR0_2.out x15_1 p167 q167
           cases e167
           replace hx167_0 := (HB.out.cell (World.block_lt_of_cell? w _ hx167_0)).trans hx167_0
           replace hx167_1 := (HB.out.cell (World.block_lt_of_cell? w _ hx167_1)).trans hx167_1
           replace hx167_2 := (HB.out.cell (World.block_lt_of_cell? w _ hx167_2)).trans hx167_2
           have HR167_1 := aM hi167_1
           have HC167_1 := aM hl167_1
           clear hi167_1 hl167_1
           have HR167_2 := aM hi167_2
           have HC167_2 := aM hl167_2
           clear hi167_2 hl167_2
           replace p167 := eq_true p167
           replace q167 := eq_true q167
           try go_wp2_with (first | ((with_reducible refine gate_dst (N := 5) rfl ?_); refine box_event ?hg (N := 5) ?hd (cs := #[.int .i64 0, .slice none 0 0, .slice none 0 0]) (t := 25) ?hr ?_; (case hd => rfl); (case hg => rfl); (case hr => first | (go_simp; done) | (go_simp; rfl)); intro gb168 hg w22 hbox hb; have n0_ := aM (Kd.R_below (by (with_reducible repeat (first | apply kA | apply kN | apply kD)); exact HO_167001.out) hb); have n1_ := aM (Kd.R_below (Kd.R_elderB (by (with_reducible repeat (first | apply kA | apply kN | apply kD)); exact HO_167002.out) gb168 (Nat.le_of_eq hg.symm)) hb); have n2_ := aM (blk_below (g := gb161) (o := .cells #[.int .i64 a0_0, .slice A0_1 l0_1.length c0_1, .slice (some ad167) l0_2.length c0_2] 25 (0, 0)) (by (with_reducible repeat (first | apply bkN | apply bkD | apply bkA)); exact BK161.out) hb); have n3_ := aM (blk_below (g := gb162) (o := .cells #[.int .i64 0, .slice none 0 0, .slice none 0 0] 25 (0, 0)) (by (with_reducible repeat (first | apply bkN | apply bkD | apply bkA)); exact BK162.out) hb); have n4_ := aM (blk_below (g := gb166) (o := .cells #[.int .i64 a0_0, .slice Ao10 t163.length co10, u167002] 25 (0, 0)) (by (with_reducible repeat (first | apply bkN | apply bkD | apply bkA)); exact BK166.out) hb); have n5_ := aM (below_step (by repeat (first | (with_reducible first | exact HB.out | apply blA | apply blN | apply blD | refine bS ?_ GE161.out | refine bS ?_ GE162.out | refine bS ?_ GE166.out) | exact HB.out)) hb); have n6_ := aM (hbox); have n7_ := aM ((by rw [hg]; exact (below_size (by repeat (first | (with_reducible first | exact HB.out | apply blA | apply blN | apply blD | refine bS ?_ GE161.out | refine bS ?_ GE162.out | refine bS ?_ GE166.out) | exact HB.out))) : w.heap.size ≤ gb168)); have n8_ := aM ((by rw [hg]; exact (below_size (by repeat (first | (with_reducible first | exact HB.out | apply blA | apply blN | apply blD | refine bS ?_ GE161.out | refine bS ?_ GE162.out | refine bS ?_ GE166.out) | exact HB.out))) : w.heap.size ≤ gb168)); have n9_ := aM ((by rw [hg]; exact Nat.ne_of_lt (blk_lt (g := gb161) (o := .cells #[.int .i64 a0_0, .slice A0_1 l0_1.length c0_1, .slice (some ad167) l0_2.length c0_2] 25 (0, 0)) (by (with_reducible repeat (first | apply bkN | apply bkD | apply bkA)); exact BK161.out)) : gb161 ≠ gb168)); have n10_ := aM ((by rw [hg]; exact Nat.ne_of_gt (blk_lt (g := gb161) (o := .cells #[.int .i64 a0_0, .slice A0_1 l0_1.length c0_1, .slice (some ad167) l0_2.length c0_2] 25 (0, 0)) (by (with_reducible repeat (first | apply bkN | apply bkD | apply bkA)); exact BK161.out)) : gb168 ≠ gb161)); have n11_ := aM ((by rw [hg]; exact Nat.ne_of_lt (blk_lt (g := gb162) (o := .cells #[.int .i64 0, .slice none 0 0, .slice none 0 0] 25 (0, 0)) (by (with_reducible repeat (first | apply bkN | apply bkD | apply bkA)); exact BK162.out)) : gb162 ≠ gb168)); have n12_ := aM ((by rw [hg]; exact Nat.ne_of_gt (blk_lt (g := gb162) (o := .cells #[.int .i64 0, .slice none 0 0, .slice none 0 0] 25 (0, 0)) (by (with_reducible repeat (first | apply bkN | apply bkD | apply bkA)); exact BK162.out)) : gb168 ≠ gb162)); have n13_ := aM ((by rw [hg]; exact Nat.ne_of_lt (blk_lt (g := gb166) (o := .cells #[.int .i64 a0_0, .slice Ao10 t163.length co10, u167002] 25 (0, 0)) (by (with_reducible repeat (first | apply bkN | apply bkD | apply bkA)); exact BK166.out)) : gb166 ≠ gb168)); have n14_ := aM ((by rw [hg]; exact Nat.ne_of_gt (blk_lt (g := gb166) (o := .cells #[.int .i64 a0_0, .slice Ao10 t163.length co10, u167002] 25 (0, 0)) (by (with_reducible repeat (first | apply bkN | apply bkD | apply bkA)); exact BK166.out)) : gb168 ≠ gb166)); clear HO_167001; clear HO_167002; clear BK161; clear BK162; clear BK166; clear HB; have HO_167001 := n0_; have HO_167002 := n1_; have BK161 := n2_; have BK162 := n3_; have BK166 := n4_; have HB := n5_; have BK168 := n6_; have GW168 := n7_; have GE168 := n8_; have NB161_168 := n9_; have NB168_161 := n10_; have NB162_168 := n11_; have NB168_162 := n12_; have NB166_168 := n13_; have NB168_166 := n14_; clear n0_ n1_ n2_ n3_ n4_ n5_ n6_ n7_ n8_ n9_ n10_ n11_ n12_ n13_ n14_; clear hb hbox hg; have hnb23 := NB168_161.out; have hnc23 := NB161_168.out; have hnb24 := NB168_162.out; have hnc24 := NB162_168.out; have hnb25 := NB168_166.out; have hnc25 := NB166_168.out; have hcz26_0 : w22.cell? ⟨gb168, 0, none⟩ = some (.int .i64 0) := (blk_cell BK168.out 0).trans rfl; have hcz26_1 : w22.cell? ⟨gb168, 1, none⟩ = some (.slice none 0 0) := (blk_cell BK168.out 1).trans rfl; have hcz26_2 : w22.cell? ⟨gb168, 2, none⟩ = some (.slice none 0 0) := (blk_cell BK168.out 2).trans rfl; have hfz26_0 := bF BK168.out 0; have hfz26_1 := bF BK168.out 1; have hfz26_2 := bF BK168.out 2))
           have n0_ : Aside0 (Kd.R k66 66 (((w22.setCell ⟨gb168, 0, none⟩ (.int .i64 ((rd_T25 l0_2 x15_1).f0))).setCell ⟨gb168, 1, none⟩ (.slice A167_1 ((rd_T25 l0_2 x15_1).f1).length c167_1)).setCell ⟨gb168, 2, none⟩ (.slice A167_2 ((rd_T25 l0_2 x15_1).f2).length c167_2)) w.heap.size (fun _ => True) (.slice Ao10 t163.length co10) t163) := ⟨by (with_reducible repeat (first | apply kA | apply kN | apply kD)); exact Kd.R_mono (Kd.R_far (p := ⟨gb168, 2, none⟩) (Kd.R_far (p := ⟨gb168, 1, none⟩) (Kd.R_far (p := ⟨gb168, 0, none⟩) (Kd.R_types HO_167001.out BK168.out (by decide)) (fun _ hk => hk.2) (.int .i64 ((rd_T25 l0_2 x15_1).f0))) (fun _ hk => hk.2) (.slice A167_1 ((rd_T25 l0_2 x15_1).f1).length c167_1)) (fun _ hk => hk.2) (.slice A167_2 ((rd_T25 l0_2 x15_1).f2).length c167_2)) (fun _ hk => trivial)⟩
           have n1_ : Aside0 (Kd.R k25 25 (((w22.setCell ⟨gb168, 0, none⟩ (.int .i64 ((rd_T25 l0_2 x15_1).f0))).setCell ⟨gb168, 1, none⟩ (.slice A167_1 ((rd_T25 l0_2 x15_1).f1).length c167_1)).setCell ⟨gb168, 2, none⟩ (.slice A167_2 ((rd_T25 l0_2 x15_1).f2).length c167_2)) w.heap.size (fun k_ => some k_ ≠ (.slice Ao10 t163.length co10 : Value).ownBlock ∧ k_ ≠ gb161 ∧ k_ ≠ gb162 ∧ k_ ≠ gb166 ∧ k_ ≠ gb168) u167002 x167002_1) := ⟨by (with_reducible repeat (first | apply kA | apply kN | apply kD)); exact Kd.R_mono (Kd.R_far (p := ⟨gb168, 2, none⟩) (Kd.R_far (p := ⟨gb168, 1, none⟩) (Kd.R_far (p := ⟨gb168, 0, none⟩) (Kd.R_mono HO_167002.out (fun k_ hk => (⟨hk, hk.2⟩ : _ ∧ k_ ≠ gb168))) (fun _ hk => hk.2) (.int .i64 ((rd_T25 l0_2 x15_1).f0))) (fun _ hk => hk.2) (.slice A167_1 ((rd_T25 l0_2 x15_1).f1).length c167_1)) (fun _ hk => hk.2) (.slice A167_2 ((rd_T25 l0_2 x15_1).f2).length c167_2)) (fun _ hk => ⟨hk.1.1.1, ⟨hk.1.1.2.1, ⟨hk.1.1.2.2.1, ⟨hk.1.1.2.2.2, hk.1.2⟩⟩⟩⟩)⟩
           have n2_ : Aside0 ((((w22.setCell ⟨gb168, 0, none⟩ (.int .i64 ((rd_T25 l0_2 x15_1).f0))).setCell ⟨gb168, 1, none⟩ (.slice A167_1 ((rd_T25 l0_2 x15_1).f1).length c167_1)).setCell ⟨gb168, 2, none⟩ (.slice A167_2 ((rd_T25 l0_2 x15_1).f2).length c167_2)).heap[gb161]? = some (.cells #[.int .i64 a0_0, .slice A0_1 l0_1.length c0_1, .slice (some ad167) l0_2.length c0_2] 25 (0, 0))) := ⟨by (with_reducible repeat (first | apply bkN | apply bkD | apply bkA)); refine blk_far ?_ NB161_168.out _; (with_reducible repeat (first | apply bkN | apply bkD | apply bkA)); refine blk_far ?_ NB161_168.out _; (with_reducible repeat (first | apply bkN | apply bkD | apply bkA)); refine blk_far ?_ NB161_168.out _; (with_reducible repeat (first | apply bkN | apply bkD | apply bkA)); exact BK161.out⟩
           have n3_ : Aside0 ((((w22.setCell ⟨gb168, 0, none⟩ (.int .i64 ((rd_T25 l0_2 x15_1).f0))).setCell ⟨gb168, 1, none⟩ (.slice A167_1 ((rd_T25 l0_2 x15_1).f1).length c167_1)).setCell ⟨gb168, 2, none⟩ (.slice A167_2 ((rd_T25 l0_2 x15_1).f2).length c167_2)).heap[gb162]? = some (.cells #[.int .i64 0, .slice none 0 0, .slice none 0 0] 25 (0, 0))) := ⟨by (with_reducible repeat (first | apply bkN | apply bkD | apply bkA)); refine blk_far ?_ NB162_168.out _; (with_reducible repeat (first | apply bkN | apply bkD | apply bkA)); refine blk_far ?_ NB162_168.out _; (with_reducible repeat (first | apply bkN | apply bkD | apply bkA)); refine blk_far ?_ NB162_168.out _; (with_reducible repeat (first | apply bkN | apply bkD | apply bkA)); exact BK162.out⟩
           have n4_ : Aside0 ((((w22.setCell ⟨gb168, 0, none⟩ (.int .i64 ((rd_T25 l0_2 x15_1).f0))).setCell ⟨gb168, 1, none⟩ (.slice A167_1 ((rd_T25 l0_2 x15_1).f1).length c167_1)).setCell ⟨gb168, 2, none⟩ (.slice A167_2 ((rd_T25 l0_2 x15_1).f2).length c167_2)).heap[gb166]? = some (.cells #[.int .i64 a0_0, .slice Ao10 t163.length co10, u167002] 25 (0, 0))) := ⟨by (with_reducible repeat (first | apply bkN | apply bkD | apply bkA)); refine blk_far ?_ NB166_168.out _; (with_reducible repeat (first | apply bkN | apply bkD | apply bkA)); refine blk_far ?_ NB166_168.out _; (with_reducible repeat (first | apply bkN | apply bkD | apply bkA)); refine blk_far ?_ NB166_168.out _; (with_reducible repeat (first | apply bkN | apply bkD | apply bkA)); exact BK166.out⟩
           have n5_ : Aside0 ((((w22.setCell ⟨gb168, 0, none⟩ (.int .i64 ((rd_T25 l0_2 x15_1).f0))).setCell ⟨gb168, 1, none⟩ (.slice A167_1 ((rd_T25 l0_2 x15_1).f1).length c167_1)).setCell ⟨gb168, 2, none⟩ (.slice A167_2 ((rd_T25 l0_2 x15_1).f2).length c167_2)).heap[gb168]? = some (.cells #[.int .i64 ((rd_T25 l0_2 x15_1).f0), .slice A167_1 ((rd_T25 l0_2 x15_1).f1).length c167_1, .slice A167_2 ((rd_T25 l0_2 x15_1).f2).length c167_2] 25 (0, 0))) := ⟨by (with_reducible repeat (first | apply bkN | apply bkD | apply bkA)); refine blk_put (cs := #[.int .i64 ((rd_T25 l0_2 x15_1).f0), .slice A167_1 ((rd_T25 l0_2 x15_1).f1).length c167_1, .slice none 0 0]) ?_ 2 _ rfl; (with_reducible repeat (first | apply bkN | apply bkD | apply bkA)); refine blk_put (cs := #[.int .i64 ((rd_T25 l0_2 x15_1).f0), .slice none 0 0, .slice none 0 0]) ?_ 1 _ rfl; (with_reducible repeat (first | apply bkN | apply bkD | apply bkA)); refine blk_put (cs := #[.int .i64 0, .slice none 0 0, .slice none 0 0]) ?_ 0 _ rfl; (with_reducible repeat (first | apply bkN | apply bkD | apply bkA)); exact BK168.out⟩
           have n6_ : Aside0 (Below w.heap.size w (((w22.setCell ⟨gb168, 0, none⟩ (.int .i64 ((rd_T25 l0_2 x15_1).f0))).setCell ⟨gb168, 1, none⟩ (.slice A167_1 ((rd_T25 l0_2 x15_1).f1).length c167_1)).setCell ⟨gb168, 2, none⟩ (.slice A167_2 ((rd_T25 l0_2 x15_1).f2).length c167_2))) := ⟨by repeat (first | (with_reducible first | exact HB.out | apply blA | apply blN | apply blD | refine bS ?_ GE161.out | refine bS ?_ GE162.out | refine bS ?_ GE166.out | refine bS ?_ GE168.out) | exact HB.out)⟩
           (try clear HO_167001)
           (try clear HO_167002)
           (try clear BK161)
           (try clear BK162)
           (try clear BK166)
           (try clear BK168)
           (try clear HB)
           generalize (((w22.setCell ⟨gb168, 0, none⟩ (.int .i64 ((rd_T25 l0_2 x15_1).f0))).setCell ⟨gb168, 1, none⟩ (.slice A167_1 ((rd_T25 l0_2 x15_1).f1).length c167_1)).setCell ⟨gb168, 2, none⟩ (.slice A167_2 ((rd_T25 l0_2 x15_1).f2).length c167_2)) = w27 at n0_ n1_ n2_ n3_ n4_ n5_ n6_ ⊢
           have HO_167001 := n0_
           have HO_167002 := n1_
           have BK161 := n2_
           have BK162 := n3_
           have BK166 := n4_
           have BK168 := n5_
           have HB := n6_
           clear n0_ n1_ n2_ n3_ n4_ n5_ n6_
           have n0_ := aM (Kd.R_drew HO_167001.out)
           have n1_ := aM (Kd.R_drew HO_167002.out)
           have n2_ := aM (blk_drew BK161.out)
           have n3_ := aM (blk_drew BK162.out)
           have n4_ := aM (blk_drew BK166.out)
           have n5_ := aM (blk_drew BK168.out)
           have n6_ := aM (below_drew1 HB.out)
           clear HO_167001
           clear HO_167002
           clear BK161
           clear BK162
           clear BK166
           clear BK168
           clear HB
           have HO_167001 := n0_
           have HO_167002 := n1_
           have BK161 := n2_
           have BK162 := n3_
           have BK166 := n4_
           have BK168 := n5_
           have HB := n6_
           clear n0_ n1_ n2_ n3_ n4_ n5_ n6_
           refine start_ (n := 8) (S := fun w' => w'.cell? ⟨gb166, 0, none⟩ = some (.int .i64 a0_0) ∧ w'.cell? ⟨gb166, 1, none⟩ = some (.slice Ao10 t163.length co10) ∧ w'.cell? ⟨gb166, 2, none⟩ = some (u167002) ∧ w'.cell? ⟨gb168, 0, none⟩ = some (.int .i64 ((rd_T25 l0_2 x15_1).f0)) ∧ w'.cell? ⟨gb168, 1, none⟩ = some (.slice A167_1 ((rd_T25 l0_2 x15_1).f1).length c167_1) ∧ w'.cell? ⟨gb168, 2, none⟩ = some (.slice A167_2 ((rd_T25 l0_2 x15_1).f2).length c167_2)) (ds := [7]) #[false, false, false, false, false, false, false, false] (by kernel_rfl) rfl rfl ⟨(blk_cell BK166.out 0).trans rfl, (blk_cell BK166.out 1).trans rfl, (blk_cell BK166.out 2).trans rfl, (blk_cell BK168.out 0).trans rfl, (blk_cell BK168.out 1).trans rfl, (blk_cell BK168.out 2).trans rfl⟩ (fun hHeld => ?_); refine with_tabW pat_twin.tab5 pat_twin.bits5 (fun HT_ HW_ => ?_)
           generalize w27.drew = w28 at HO_167001 HO_167002 BK161 BK162 BK166 BK168 HB hHeld ⊢
           refine pure_ (i := 0) (N := some 19) (v := ?_) (a' := ?_) #[true, false, false, false, false, false, false, false] rfl rfl (any_of HT_.out (by kernel_rfl)) (fun _ _ _ h => h) (Or.inl ⟨by rfl, ?_⟩) ?_ ?_
           rotate_left
           · intro w'
             go_simp
             with_reducible rfl
           rotate_left
           · simp only [Act.put, List.setIfInBounds_toArray, List.set_cons_zero, List.set_cons_succ, i64_w, i32_w]
             rfl
           refine take_ (i := 1) (N := some 20) (v := ?_) (a' := ?_) #[true, true, false, false, false, false, false, false] rfl rfl (take_ofW HT_.out HW_.out (by kernel_rfl)) (fun _ _ _ h => h) (Or.inl ⟨by rfl, ?_⟩) hHeld ?_ ?_
           rotate_left
           · rintro w' ⟨s0, s1, s2, s3, s4, s5⟩
             go_simp
             with_reducible rfl
           rotate_left
           · simp only [Act.put, List.setIfInBounds_toArray, List.set_cons_zero, List.set_cons_succ, i64_w, i32_w]
             rfl
           refine take_ (i := 2) (N := some 21) (v := ?_) (a' := ?_) #[true, true, true, false, false, false, false, false] rfl rfl (take_ofW HT_.out HW_.out (by kernel_rfl)) (fun _ _ _ h => h) (Or.inl ⟨by rfl, ?_⟩) hHeld ?_ ?_
           rotate_left
           · rintro w' ⟨s0, s1, s2, s3, s4, s5⟩
             go_simp
             with_reducible rfl
           rotate_left
           · simp only [Act.put, List.setIfInBounds_toArray, List.set_cons_zero, List.set_cons_succ, i64_w, i32_w]
             rfl
           refine one_ (i := 3) (N := some 22) #[true, true, true, true, false, false, false, false] rfl rfl (one_of HT_.out (by kernel_rfl)) (by decide) (fun K hK => ?_)
           refine goes_ Try.func50 (by kernel_rfl) rfl #[.agg #[.int .i64 ((rd_T25 l0_2 x15_1).f0), .slice A167_1 ((rd_T25 l0_2 x15_1).f1).length c167_1, .slice A167_2 ((rd_T25 l0_2 x15_1).f2).length c167_2]] (by rfl) rfl rfl (by (try simp only [List.map_toArray, List.map_cons, List.map_nil]); first | done | rfl | (simp only [List.length_drop, List.length_take]; rfl)) ?_
           with_reducible refine (ih k1 (by have := HK1.out; omega) ((rd_T25 l0_2 x15_1).f0) _ _ ((rd_T25 l0_2 x15_1).f1) _ _ ((rd_T25 l0_2 x15_1).f2) t169 t170 t173 _ ?side1 ?side2 ?side3 ?side4 A20.out).mono ?_
           (case side1 => repeat (first | exact (Kd.C_below HR167_1.out HB.out) | (with_reducible refine Kd.C_alloc ?_ _) | (with_reducible refine Kd.C_drewN ?_ _) | (with_reducible refine Kd.C_drew ?_)))
           (case side2 => exact HC167_1.out)
           (case side3 => repeat (first | exact (Kd.C_below HR167_2.out HB.out) | (with_reducible refine Kd.C_alloc ?_ _) | (with_reducible refine Kd.C_drewN ?_ _) | (with_reducible refine Kd.C_drew ?_)))
           (case side4 => exact HC167_2.out)
           rintro e w29 ⟨v171, v174, rfl, ho0, ho1, hb⟩
           refine ⟨_, rfl, ?_⟩
           have n0_ := aM (Kd.R_elder' (by (with_reducible repeat (first | apply kA | apply kN | apply kD)); exact HO_167001.out) (Kd.R_base ho0) hb)
           have n1_ := aM (Kd.R_mono (Kd.R_told (Kd.R_told (Kd.R_old (by (with_reducible repeat (first | apply kA | apply kN | apply kD)); exact HO_167002.out) hb) (Kd.R_base ho0)) (Kd.R_base ho1)) (fun _ h_ => h_.1))
           have n2_ := aM (Kd.R_lower (Kd.R_new' ho0 (Kd.R_lt (by (with_reducible repeat (first | apply kA | apply kN | apply kD)); exact HO_167001.out))) (below_size (by repeat (first | (with_reducible first | exact HB.out | apply blA | apply blN | apply blD | refine bS ?_ GE161.out | refine bS ?_ GE162.out | refine bS ?_ GE166.out | refine bS ?_ GE168.out) | exact HB.out))))
           have n3_ := aM (Kd.R_lower (Kd.R_newB (Kd.R_newB (Kd.R_newB (Kd.R_newB (Kd.R_new' (Kd.R_new' ho1 (Kd.R_lt (by (with_reducible repeat (first | apply kA | apply kN | apply kD)); exact HO_167001.out))) (Kd.R_lt (by (with_reducible repeat (first | apply kA | apply kN | apply kD)); exact HO_167002.out))) (g := gb161) (o := .cells #[.int .i64 a0_0, .slice A0_1 l0_1.length c0_1, .slice (some ad167) l0_2.length c0_2] 25 (0, 0)) (by (with_reducible repeat (first | apply bkN | apply bkD | apply bkA)); exact BK161.out)) (g := gb162) (o := .cells #[.int .i64 0, .slice none 0 0, .slice none 0 0] 25 (0, 0)) (by (with_reducible repeat (first | apply bkN | apply bkD | apply bkA)); exact BK162.out)) (g := gb166) (o := .cells #[.int .i64 a0_0, .slice Ao10 t163.length co10, u167002] 25 (0, 0)) (by (with_reducible repeat (first | apply bkN | apply bkD | apply bkA)); exact BK166.out)) (g := gb168) (o := .cells #[.int .i64 ((rd_T25 l0_2 x15_1).f0), .slice A167_1 ((rd_T25 l0_2 x15_1).f1).length c167_1, .slice A167_2 ((rd_T25 l0_2 x15_1).f2).length c167_2] 25 (0, 0)) (by (with_reducible repeat (first | apply bkN | apply bkD | apply bkA)); exact BK168.out)) (below_size (by repeat (first | (with_reducible first | exact HB.out | apply blA | apply blN | apply blD | refine bS ?_ GE161.out | refine bS ?_ GE162.out | refine bS ?_ GE166.out | refine bS ?_ GE168.out) | exact HB.out))))
           have n4_ := aM (blk_below (g := gb161) (o := .cells #[.int .i64 a0_0, .slice A0_1 l0_1.length c0_1, .slice (some ad167) l0_2.length c0_2] 25 (0, 0)) (by (with_reducible repeat (first | apply bkN | apply bkD | apply bkA)); exact BK161.out) hb)
           have n5_ := aM (blk_below (g := gb162) (o := .cells #[.int .i64 0, .slice none 0 0, .slice none 0 0] 25 (0, 0)) (by (with_reducible repeat (first | apply bkN | apply bkD | apply bkA)); exact BK162.out) hb)
           have n6_ := aM (blk_below (g := gb166) (o := .cells #[.int .i64 a0_0, .slice Ao10 t163.length co10, u167002] 25 (0, 0)) (by (with_reducible repeat (first | apply bkN | apply bkD | apply bkA)); exact BK166.out) hb)
           have n7_ := aM (blk_below (g := gb168) (o := .cells #[.int .i64 ((rd_T25 l0_2 x15_1).f0), .slice A167_1 ((rd_T25 l0_2 x15_1).f1).length c167_1, .slice A167_2 ((rd_T25 l0_2 x15_1).f2).length c167_2] 25 (0, 0)) (by (with_reducible repeat (first | apply bkN | apply bkD | apply bkA)); exact BK168.out) hb)
           have n8_ := aM (below_step (by repeat (first | (with_reducible first | exact HB.out | apply blA | apply blN | apply blD | refine bS ?_ GE161.out | refine bS ?_ GE162.out | refine bS ?_ GE166.out | refine bS ?_ GE168.out) | exact HB.out)) hb)
           clear HO_167001
           clear HO_167002
           clear BK161
           clear BK162
           clear BK166
           clear BK168
           clear HB
           have HO_167001 := n0_
           have HO_167002 := n1_
           have HO172 := n2_
           have HO175 := n3_
           have BK161 := n4_
           have BK162 := n5_
           have BK166 := n6_
           have BK168 := n7_
           have HB := n8_
           clear n0_ n1_ n2_ n3_ n4_ n5_ n6_ n7_ n8_
           (try clear hb)
           (try clear hb2)
           (try clear hk)
           (try clear hi)
           (try clear ho0)
           (try clear ho1)
           obtain ⟨Ao31, co31, eo31⟩ := Kd.R_slice HO172.out
           (first | subst eo31 | (injection eo31 with f1_ f2_ f3_; have f4_ := f1_.symm; have f5_ := f3_.symm; clear f1_ f2_ f3_; subst f4_; subst f5_))
           obtain ⟨Ao32, co32, eo32⟩ := Kd.R_slice HO175.out
           (first | subst eo32 | (injection eo32 with f1_ f2_ f3_; have f4_ := f1_.symm; have f5_ := f3_.symm; clear f1_ f2_ f3_; subst f4_; subst f5_))
           refine hK.out _ _ ⟨(blk_cell BK166.out 0).trans rfl, (blk_cell BK166.out 1).trans rfl, (blk_cell BK166.out 2).trans rfl, (blk_cell BK168.out 0).trans rfl, (blk_cell BK168.out 1).trans rfl, (blk_cell BK168.out 2).trans rfl⟩ (fun hHeld => ?_)
           clear hK K
           refine norm_ (a' := ?_) ?_ ?_
           rotate_left
           · show Act.put _ (some 22) _ = _
             simp only [Act.put, List.setIfInBounds_toArray, List.set_cons_zero, List.set_cons_succ, i64_w, i32_w]
             rfl
           refine one_ (i := 4) (N := some 23) #[true, true, true, true, true, false, false, false] rfl rfl (one_of HT_.out (by kernel_rfl)) (by decide) (fun K hK => ?_)
           refine value_ (w1 := ?_) (v := ?_) (by rfl) rfl ?_ ?_
           rotate_left 2
           · go_simp
             constructor
             · rfl
             · rfl
           refine hK.out _ _ ⟨(blk_cell (blk_alloc BK166.out _) 0).trans rfl, (blk_cell (blk_alloc BK166.out _) 1).trans rfl, (blk_cell (blk_alloc BK166.out _) 2).trans rfl, (blk_cell (blk_alloc BK168.out _) 0).trans rfl, (blk_cell (blk_alloc BK168.out _) 1).trans rfl, (blk_cell (blk_alloc BK168.out _) 2).trans rfl⟩ (fun hHeld => ?_)
           clear hK K
           refine norm_ (a' := ?_) ?_ ?_
           rotate_left
           · show Act.put _ (some 23) _ = _
             simp only [Act.put, List.setIfInBounds_toArray, List.set_cons_zero, List.set_cons_succ, i64_w, i32_w]
             rfl
           refine one_ (i := 5) (N := some 24) #[true, true, true, true, true, true, false, false] rfl rfl (one_of HT_.out (by kernel_rfl)) (by decide) (fun K hK => ?_)
           refine Kd.R_append_step k25 (w0 := w) w.heap.size (by rfl) (.tmp 20) (.tmp 23) 23 25 (.agg #[(.int .i64 0), (.slice none 0 0), (.slice none 0 0)]) 56 rfl Try.underlying23 info25 rfl (by decide) (by omega) u167002 x167002_1 (⟨t169, t170, t173⟩ : S25) [.int .i64 t169, .slice Ao31 t170.length co31, .slice Ao32 t173.length co32] (fun k_ => some k_ ≠ (.slice Ao10 t163.length co10 : Value).ownBlock ∧ k_ ≠ gb161 ∧ k_ ≠ gb162 ∧ k_ ≠ gb166 ∧ k_ ≠ gb168) (fun k_ => ((fun k_ => some k_ ≠ (.slice Ao10 t163.length co10 : Value).ownBlock ∧ k_ ≠ gb161 ∧ k_ ≠ gb162 ∧ k_ ≠ gb166 ∧ k_ ≠ gb168)) k_ ∧ some k_ ≠ (u167002 : Value).ownBlock) rfl rfl ?aP (fun _ hk => hk) ?aF ?aO ?aB ?aS ?aL ?_
           (case aP => exact k25_mkM _ _ _ (⟨t169, t170, t173⟩ : S25) (Kd.R_mono (Kd.R_types (Kd.R_types (Kd.R_types (Kd.R_types (Kd.R_apart' (HO172.out) (Kd.R_typed HO_167002.out) (by decide)) BK161.out (by decide)) BK162.out (by decide)) BK166.out (by decide)) BK168.out (by decide)) (fun k_ hk => ⟨⟨hk.1.1.1.1.1.2, ⟨hk.1.1.1.2, ⟨hk.1.1.2, ⟨hk.1.2, hk.2⟩⟩⟩⟩, hk.1.1.1.1.2⟩)) (Kd.R_mono (HO175.out) (fun k_ hk => ⟨⟨hk.1.1.1.1.1.2, ⟨hk.1.1.1.2, ⟨hk.1.1.2, ⟨hk.1.2, hk.2⟩⟩⟩⟩, hk.1.1.1.1.2⟩)))
           (case aB => exact (by repeat (first | (with_reducible first | exact HB.out | apply blA | apply blN | apply blD | refine bS ?_ GE161.out | refine bS ?_ GE162.out | refine bS ?_ GE166.out | refine bS ?_ GE168.out) | exact HB.out)))
           (case aF => exact (fun k_ hk => ⟨Kd.fresh' (Kd.R_lt (by (with_reducible repeat (first | apply kA | apply kN | apply kD)); exact HO_167001.out)) k_ hk, Kd.freshB (g := gb161) (o := .cells #[.int .i64 a0_0, .slice A0_1 l0_1.length c0_1, .slice (some ad167) l0_2.length c0_2] 25 (0, 0)) (by (with_reducible repeat (first | apply bkN | apply bkD | apply bkA)); exact BK161.out) k_ hk, Kd.freshB (g := gb162) (o := .cells #[.int .i64 0, .slice none 0 0, .slice none 0 0] 25 (0, 0)) (by (with_reducible repeat (first | apply bkN | apply bkD | apply bkA)); exact BK162.out) k_ hk, Kd.freshB (g := gb166) (o := .cells #[.int .i64 a0_0, .slice Ao10 t163.length co10, u167002] 25 (0, 0)) (by (with_reducible repeat (first | apply bkN | apply bkD | apply bkA)); exact BK166.out) k_ hk, Kd.freshB (g := gb168) (o := .cells #[.int .i64 ((rd_T25 l0_2 x15_1).f0), .slice A167_1 ((rd_T25 l0_2 x15_1).f1).length c167_1, .slice A167_2 ((rd_T25 l0_2 x15_1).f2).length c167_2] 25 (0, 0)) (by (with_reducible repeat (first | apply bkN | apply bkD | apply bkA)); exact BK168.out) k_ hk⟩))
           (case aO => exact (by (with_reducible repeat (first | apply kA | apply kN | apply kD)); exact Kd.R_mono HO_167002.out (fun _ hk => ⟨hk.1.1.1, ⟨hk.1.1.2.1, ⟨hk.1.1.2.2.1, ⟨hk.1.1.2.2.2.1, hk.1.1.2.2.2.2⟩⟩⟩⟩)))
           (case aS => exact (below_size (by repeat (first | (with_reducible first | exact HB.out | apply blA | apply blN | apply blD | refine bS ?_ GE161.out | refine bS ?_ GE162.out | refine bS ?_ GE166.out | refine bS ?_ GE168.out) | exact HB.out))))
           (case aL => have := LMc21.out; omega)
           intro v177 w30 ho hb hg hat
           rw [← Ny176.out] at ho
           have n0_ := aM (Kd.R_over' (by (with_reducible repeat (first | apply kA | apply kN | apply kD)); exact HO_167001.out) (Kd.R_typed (by (with_reducible repeat (first | apply kA | apply kN | apply kD)); exact HO_167002.out)) (by decide) hg)
           have n1_ := aM (blk_grown (g := gb161) (o := .cells #[.int .i64 a0_0, .slice A0_1 l0_1.length c0_1, .slice (some ad167) l0_2.length c0_2] 25 (0, 0)) (by (with_reducible repeat (first | apply bkN | apply bkD | apply bkA)); exact BK161.out) hg (Kd.R_away HO_167002.out (fun _ hk => hk.1.1.2.1)))
           have n2_ := aM (blk_grown (g := gb162) (o := .cells #[.int .i64 0, .slice none 0 0, .slice none 0 0] 25 (0, 0)) (by (with_reducible repeat (first | apply bkN | apply bkD | apply bkA)); exact BK162.out) hg (Kd.R_away HO_167002.out (fun _ hk => hk.1.1.2.2.1)))
           have n3_ := aM (blk_grown (g := gb166) (o := .cells #[.int .i64 a0_0, .slice Ao10 t163.length co10, u167002] 25 (0, 0)) (by (with_reducible repeat (first | apply bkN | apply bkD | apply bkA)); exact BK166.out) hg (Kd.R_away HO_167002.out (fun _ hk => hk.1.1.2.2.2.1)))
           have n4_ := aM (blk_grown (g := gb168) (o := .cells #[.int .i64 ((rd_T25 l0_2 x15_1).f0), .slice A167_1 ((rd_T25 l0_2 x15_1).f1).length c167_1, .slice A167_2 ((rd_T25 l0_2 x15_1).f2).length c167_2] 25 (0, 0)) (by (with_reducible repeat (first | apply bkN | apply bkD | apply bkA)); exact BK168.out) hg (Kd.R_away HO_167002.out (fun _ hk => hk.1.1.2.2.2.2)))
           have n5_ := aM (hb)
           have n6_ := aM (ho)
           clear HO_167001
           clear BK161
           clear BK162
           clear BK166
           clear BK168
           clear HB
           clear HO_167002
           clear HO172
           clear HO175
           have HO_167001 := n0_
           have BK161 := n1_
           have BK162 := n2_
           have BK166 := n3_
           have BK168 := n4_
           have HB := n5_
           have HO178 := n6_
           clear n0_ n1_ n2_ n3_ n4_ n5_ n6_
           clear ho hb hg hat
           obtain ⟨Ao33, co33, eo33⟩ := Kd.R_slice HO178.out
           (first | subst eo33 | (injection eo33 with f1_ f2_ f3_; have f4_ := f1_.symm; have f5_ := f3_.symm; clear f1_ f2_ f3_; subst f4_; subst f5_))
           refine hK.out _ _ ⟨(blk_cell BK166.out 0).trans rfl, (blk_cell BK166.out 1).trans rfl, (blk_cell BK166.out 2).trans rfl, (blk_cell BK168.out 0).trans rfl, (blk_cell BK168.out 1).trans rfl, (blk_cell BK168.out 2).trans rfl⟩ (fun hHeld => ?_)
           clear hK K
           refine norm_ (a' := ?_) ?_ ?_
           rotate_left
           · show Act.put _ (some 24) _ = _
             simp only [Act.put, List.setIfInBounds_toArray, List.set_cons_zero, List.set_cons_succ, i64_w, i32_w]
             rfl
           refine pure_ (i := 6) (N := some 25) (v := ?_) (a' := ?_) #[true, true, true, true, true, true, true, false] rfl rfl (any_of HT_.out (by kernel_rfl)) (fun _ _ _ h => h) (Or.inl ⟨by rfl, ?_⟩) ?_ ?_
           rotate_left
           · intro w'
             go_simp
             with_reducible rfl
           rotate_left
           · simp only [Act.put, List.setIfInBounds_toArray, List.set_cons_zero, List.set_cons_succ, i64_w, i32_w]
             rfl
           refine last_ (i := 7) (N := none) #[true, true, true, true, true, true, true, true] rfl rfl (one_of HT_.out (by kernel_rfl)) (by decide) (fun K hK => ?_)
           have hs34 : w30.cell? ⟨gb166, 2, none⟩ = some (u167002) := (blk_cell BK166.out 2).trans rfl
           have hfs34 := bF BK166.out 2
           have hns34_0 := NB161_166.out
           have hns34_1 := NB162_166.out
           have hns34_3 := NB168_166.out
           have hms34_0 := NB166_161.out
           have hms34_1 := NB166_162.out
           have hms34_3 := NB166_168.out
           refine skip_ (w1 := ?_) (by rfl) rfl ?_ ?_
           rotate_left
           · go_simp
             rfl
           refine hK.out _ _ ?_
           clear hK K
           refine done_ (done_of HT_.out (by kernel_rfl)) ?_
           try go_wp2
           go_roundg k1
           case measure => have := HK1.out; omega
           case rel => exact ⟨(wrap64 (x15_1 + 1)), (y176), (.slice Ao33 y176.length co33), (by first | rfl | (simp; done) | (simp [*]; done)), H', ⟨by have := HK1.out; omega⟩, ⟨by (with_reducible repeat (first | apply kA | apply kN | apply kD)); exact Kd.R_mono (Kd.R_far (p := ⟨gb166, 2, none⟩) (Kd.R_types HO_167001.out BK166.out (by decide)) (fun _ hk => hk.2) (.slice Ao33 y176.length co33)) (fun _ hk => trivial)⟩, ⟨by (with_reducible repeat (first | apply kA | apply kN | apply kD)); exact Kd.R_mono (Kd.R_far (p := ⟨gb166, 2, none⟩) (Kd.R_mono HO178.out (fun k_ hk => (⟨hk, hk.2.2.2.1⟩ : _ ∧ k_ ≠ gb166))) (fun _ hk => hk.2) (.slice Ao33 y176.length co33)) (fun _ hk => ⟨hk.1.1, ⟨hk.1.2.1, ⟨hk.1.2.2.1, hk.1.2.2.2.1⟩⟩⟩)⟩, ⟨by (with_reducible repeat (first | apply bkN | apply bkD | apply bkA)); refine blk_far ?_ NB161_166.out _; (with_reducible repeat (first | apply bkN | apply bkD | apply bkA)); exact BK161.out⟩, ⟨by (with_reducible repeat (first | apply bkN | apply bkD | apply bkA)); refine blk_far ?_ NB162_166.out _; (with_reducible repeat (first | apply bkN | apply bkD | apply bkA)); exact BK162.out⟩, ⟨by (with_reducible repeat (first | apply bkN | apply bkD | apply bkA)); refine blk_put (cs := #[.int .i64 a0_0, .slice Ao10 t163.length co10, u167002]) ?_ 2 _ rfl; (with_reducible repeat (first | apply bkN | apply bkD | apply bkA)); exact BK166.out⟩, ⟨by repeat (first | (with_reducible first | exact HB.out | apply blA | apply blN | apply blD | refine bS ?_ GE161.out | refine bS ?_ GE162.out | refine bS ?_ GE166.out | refine bS ?_ GE168.out) | exact HB.out)⟩⟩
         · rw [if_neg c21] at H
           exact absurd H (by simp)
       · rw [if_neg c19] at H
         exact absurd H (by simp)
     · rw [if_neg c18] at H
       exact absurd H (by simp)
   · rw [if_neg c17] at H
     have c17b0 : decide (x15_1 < (l0_2.length : Int)) = false := decide_eq_false c17
     clear c17
     simp only [Option.some.injEq, Prod.mk.injEq] at H
     obtain ⟨rfl, rfl, rfl⟩ := H
     have hnb35 := NB166_161.out
     have hnc35 := NB161_166.out
     have hnb36 := NB166_162.out
     have hnc36 := NB162_166.out
     have hcz37_0 : wr.cell? ⟨gb166, 0, none⟩ = some (.int .i64 a0_0) := (blk_cell BK166.out 0).trans rfl
     have hcz37_1 : wr.cell? ⟨gb166, 1, none⟩ = some (.slice Ao10 t163.length co10) := (blk_cell BK166.out 1).trans rfl
     have hcz37_2 : wr.cell? ⟨gb166, 2, none⟩ = some (u167002) := (blk_cell BK166.out 2).trans rfl
     have hfz37_0 := bF BK166.out 0
     have hfz37_1 := bF BK166.out 1
     have hfz37_2 := bF BK166.out 2
     have hnb38 := NB162_161.out
     have hnc38 := NB161_162.out
     have hcz39_0 : wr.cell? ⟨gb162, 0, none⟩ = some (.int .i64 0) := (blk_cell BK162.out 0).trans rfl
     have hcz39_1 : wr.cell? ⟨gb162, 1, none⟩ = some (.slice none 0 0) := (blk_cell BK162.out 1).trans rfl
     have hcz39_2 : wr.cell? ⟨gb162, 2, none⟩ = some (.slice none 0 0) := (blk_cell BK162.out 2).trans rfl
     have hfz39_0 := bF BK162.out 0
     have hfz39_1 := bF BK162.out 1
     have hfz39_2 := bF BK162.out 2
     obtain ⟨Ao40, co40, eo40⟩ := Kd.R_slice HO_167002.out
     subst eo40
     go_wp2
     refine bodyPost_ret (results_cell_row rfl _ _ gb162 25 #[.int .i64 a0_0, .slice Ao10 t163.length co10, .slice Ao40 x167002_1.length co40] (0, 0) _ rfl (by (with_reducible repeat (first | apply bkN | apply bkD | apply bkA)); refine blk_put (cs := #[.int .i64 a0_0, .slice Ao10 t163.length co10, .slice none 0 0]) ?_ 2 _ rfl; (with_reducible repeat (first | apply bkN | apply bkD | apply bkA)); refine blk_put (cs := #[.int .i64 a0_0, .slice none 0 0, .slice none 0 0]) ?_ 1 _ rfl; (with_reducible repeat (first | apply bkN | apply bkD | apply bkA)); refine blk_put (cs := #[.int .i64 0, .slice none 0 0, .slice none 0 0]) ?_ 0 _ rfl; (with_reducible repeat (first | apply bkN | apply bkD | apply bkA)); exact BK162.out) Try.underlying25 rfl (by kernel_rfl)) rfl ?_
     exact ⟨_, _, by first | rfl | (simp [errW_none, errW_some] <;> rfl) | (simp [*, errW_none, errW_some] <;> rfl), by (with_reducible repeat (first | apply kA | apply kN | apply kD)); exact Kd.R_mono (Kd.R_far (p := ⟨gb162, 2, none⟩) (Kd.R_far (p := ⟨gb162, 1, none⟩) (Kd.R_far (p := ⟨gb162, 0, none⟩) (Kd.R_types HO_167001.out BK162.out (by decide)) (fun _ hk => hk.2) (.int .i64 a0_0)) (fun _ hk => hk.2) (.slice Ao10 t163.length co10)) (fun _ hk => hk.2) (.slice Ao40 x167002_1.length co40)) (fun _ hk => trivial), by (with_reducible repeat (first | apply kA | apply kN | apply kD)); exact Kd.R_mono (Kd.R_far (p := ⟨gb162, 2, none⟩) (Kd.R_far (p := ⟨gb162, 1, none⟩) (Kd.R_far (p := ⟨gb162, 0, none⟩) (Kd.R_mono HO_167002.out (fun k_ hk => (⟨hk, hk.2.2.1⟩ : _ ∧ k_ ≠ gb162))) (fun _ hk => hk.2) (.int .i64 a0_0)) (fun _ hk => hk.2) (.slice Ao10 t163.length co10)) (fun _ hk => hk.2) (.slice Ao40 x167002_1.length co40)) (fun _ hk => hk.1.1), by repeat (first | (with_reducible first | exact HB.out | apply blA | apply blN | apply blD | refine bS ?_ GE161.out | refine bS ?_ GE162.out | refine bS ?_ GE166.out) | exact HB.out)⟩
end Go.Proofs.Ytlkjfjlmjgkheaa.G
