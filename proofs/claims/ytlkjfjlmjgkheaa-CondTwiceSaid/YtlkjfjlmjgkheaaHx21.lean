import Derived.Test.YtlkjfjlmjgkheaaHx0
import Derived.Test.YtlkjfjlmjgkheaaHx19
import Derived.Test.YtlkjfjlmjgkheaaHx20
namespace Go.Proofs.Ytlkjfjlmjgkheaa.H
open Go.RowKit Go.Proofs.YtlkjfjlmjgkheaaW.PrintWords Go.Proofs.YtlkjfjlmjgkheaaW.PrintLast Go.Proofs.YtlkjfjlmjgkheaaW.PrintMore
attribute [local go_sem] max2_int min2_int max_two min_two max_three min_three max_four min_four
set_option linter.unusedVariables false
set_option linter.unusedSimpArgs false
def dragomanref11_Copy.l0 : Nat → List (S61) → Int → Int → Int → List (S83) → List (S61) → List (S64) → Int → Int → Option (Int × (List (S83)) × (List (S61)) × (List (S64)) × Int × Int)
 | 0, _, _, _, _, _, _, _, _, _ => none
 | k + 1, x21, x22, x23, x331000, x331001, x331002, x331003, x331004, x331005 => if x23 < x22 then (if 0 ≤ x23 then (if x23 < (x21.length : Int) then ((r5_Copy.f k ((rd_T61 x21 x23).f1.f0) ((rd_T61 x21 x23).f1.f1) ((rd_T61 x21 x23).f1.f2)).bind fun bt333 => (if x331002.length < 2199023255552 then (dragomanref11_Copy.l0 k x21 x22 (wrap64 (x23 + 1)) x331000 x331001 (x331002 ++ [(⟨(rd_T61 x21 x23).f0, (⟨bt333.1, bt333.2.1, bt333.2.2⟩ : S25)⟩ : S61)]) x331003 x331004 x331005) else (none))) else (none)) else (none)) else (some (x331000, x331001, x331002, x331003, x331004, x331005))
def dragomanref11_Copy.f (k : Nat) (a0_0 : Int) (l0_1 : List (S83)) (l0_2 : List (S61)) (l0_3 : List (S64)) (a0_4 : Int) (a0_5 : Int) : Option (Int × (List (S83)) × (List (S61)) × (List (S64)) × Int × Int) := (some (([] : List (S83)) : List (S83))).bind fun y321 => (if y321.length + l0_1.length < 3518437208883 then ((dragomanref11_CopyComms.f k l0_3).bind fun t327 => (dragomanref11_Copy.l0 k l0_2 (l0_2.length : Int) 0 a0_0 (y321 ++ l0_1) ([] : List (S61)) t327 a0_4 a0_5)) else (none))
def dragomanref11_Copy.T1 : Bool × List (List Nat × List Nat) := (true, [([], []), ([0], [0]), ([], []), ([2], [2]), ([], []), ([4], [4]), ([], []), ([], []), ([7], [7]), ([6, 8], [6, 8]), ([], []), ([10], [10]), ([11, 9], [11]), ([1, 3, 5, 9, 12], [1, 3, 5, 9, 12]), ([], []), ([14, 13, 12, 0, 1, 2, 3, 4, 5, 6, 7, 8, 9, 10, 11, 12, 13, 14], [13, 14])])
def dragomanref11_Copy.B1 : List Nat := [0, 1, 0, 4, 0, 16, 0, 0, 128, 448, 0, 1024, 4032, 8191, 0, 32767]
theorem dragomanref11_Copy.tab1 : rtab .any (opsOf Try.f30 1) = dragomanref11_Copy.T1 := by kernel_rfl
theorem dragomanref11_Copy.bits1 : waitsOk dragomanref11_Copy.T1.2 dragomanref11_Copy.B1 = true := by kernel_rfl
def dragomanref11_Copy.T5 : Bool × List (List Nat × List Nat) := (true, [([], []), ([0], [0]), ([], []), ([2], [2]), ([], []), ([4], [4]), ([5], [5]), ([3, 6], [3, 6]), ([7], [7]), ([1, 8, 6], [1, 8]), ([0, 1, 2, 3, 4, 5, 6, 7, 8, 9], []), ([10, 9, 9, 0, 1, 2, 3, 4, 5, 6, 7, 8, 9], [9, 10])])
def dragomanref11_Copy.B5 : List Nat := [0, 1, 0, 4, 0, 16, 48, 124, 252, 511, 1023, 2047]
theorem dragomanref11_Copy.tab5 : rtab .any (opsOf Try.f30 5) = dragomanref11_Copy.T5 := by kernel_rfl
theorem dragomanref11_Copy.bits5 : waitsOk dragomanref11_Copy.T5.2 dragomanref11_Copy.B5 = true := by kernel_rfl
set_option maxHeartbeats 8000000 in
set_option maxRecDepth 100000 in
theorem dragomanref11_Copy.calls (k : Nat) (a0_0 : Int) (A0_1 : Option Addr) (c0_1 : Nat) (l0_1 : List (S83)) (A0_2 : Option Addr) (c0_2 : Nat) (l0_2 : List (S61)) (A0_3 : Option Addr) (c0_3 : Nat) (l0_3 : List (S64)) (a0_4 : Int) (a0_5 : Int) (r1 : Int) (r2 : List (S83)) (r3 : List (S61)) (r4 : List (S64)) (r5 : Int) (r6 : Int) (w : World) (hr0_1 : Kd.C k83 w A0_1 l0_1.length l0_1) (hc0_1 : l0_1.length ≤ c0_1) (hr0_2 : Kd.C k61 w A0_2 l0_2.length l0_2) (hc0_2 : l0_2.length ≤ c0_2) (hr0_3 : Kd.C k64 w A0_3 l0_3.length l0_3) (hc0_3 : l0_3.length ≤ c0_3) (h : dragomanref11_Copy.f k a0_0 l0_1 l0_2 l0_3 a0_4 a0_5 = some (r1, r2, r3, r4, r5, r6)) :
 Calls Try.prog 30 #[.agg #[.int .i64 a0_0, .slice A0_1 l0_1.length c0_1, .slice A0_2 l0_2.length c0_2, .slice A0_3 l0_3.length c0_3, .int .u32 a0_4, .int .u32 a0_5]] w fun e w' => ∃ v1_ v2_ v3_ : Value, e = .returned (.agg #[.int .i64 r1, v1_, v2_, v3_, .int .u32 r5, .int .u32 r6]) ∧ Kd.R k83 83 w' w.heap.size (fun _ => True) v1_ r2 ∧ Kd.R k61 61 w' w.heap.size (fun _ => True) v2_ r3 ∧ Kd.S k64 64 w' w.heap.size (fun _ => True) v3_ r4 ∧ Below w.heap.size w w' := by
 have hu46 := Try.underlying46
 have hu61 := Try.underlying61
 have hu25 := Try.underlying25
 have HR0_1 := aM hr0_1
 have HC0_1 := aM hc0_1
 clear hr0_1 hc0_1
 have HR0_2 := aM hr0_2
 have HC0_2 := aM hc0_2
 clear hr0_2 hc0_2
 have HR0_3 := aM hr0_3
 have HC0_3 := aM hc0_3
 clear hr0_3 hc0_3
 have HB := aM (Below.refl w.heap.size w)
 have H : ((some (([] : List (S83)) : List (S83))).bind fun y321 => (if y321.length + l0_1.length < 3518437208883 then ((dragomanref11_CopyComms.f k l0_3).bind fun t327 => (dragomanref11_Copy.l0 k l0_2 (l0_2.length : Int) 0 a0_0 (y321 ++ l0_1) ([] : List (S61)) t327 a0_4 a0_5)) else (none))) = some (r1, r2, r3, r4, r5, r6) := h
 clear h
 obtain ⟨y321, hy321⟩ : ∃ y_ : List (S83), y_ = (([] : List (S83))) := ⟨_, rfl⟩
 replace H : (if y321.length + l0_1.length < 3518437208883 then ((dragomanref11_CopyComms.f k l0_3).bind fun t327 => (dragomanref11_Copy.l0 k l0_2 (l0_2.length : Int) 0 a0_0 (y321 ++ l0_1) ([] : List (S61)) t327 a0_4 a0_5)) else (none)) = some (r1, r2, r3, r4, r5, r6) := by first | (rw [hy321]; with_reducible exact H) | (have H2_ := (Option.bind_some _ _).symm.trans H; rw [hy321]; with_reducible exact H2_) | (have H2_ := (Option.bind_some _ _).symm.trans H; with_reducible exact H2_) | with_reducible exact H | (rw [hy321]; exact H) | exact H
 have Ny321 := aM hy321
 clear hy321
 by_cases c2 : y321.length + l0_1.length < 3518437208883
 · rw [if_pos c2] at H
   have LMc2 := aM c2
   clear c2
   obtain ⟨y324, hy324⟩ : ∃ y_ : List (S83), y_ = (y321 ++ l0_1) := ⟨_, rfl⟩
   replace H : ((dragomanref11_CopyComms.f k l0_3).bind fun t327 => (dragomanref11_Copy.l0 k l0_2 (l0_2.length : Int) 0 a0_0 y324 ([] : List (S61)) t327 a0_4 a0_5)) = some (r1, r2, r3, r4, r5, r6) := by first | (rw [hy324]; with_reducible exact H) | (have H2_ := (Option.bind_some _ _).symm.trans H; rw [hy324]; with_reducible exact H2_) | (have H2_ := (Option.bind_some _ _).symm.trans H; with_reducible exact H2_) | with_reducible exact H | (rw [hy324]; exact H) | exact H
   have Ny324 := aM hy324
   clear hy324
   replace H := Option.bind_eq_some_iff.mp H
   obtain ⟨t327, A30, H⟩ := H
   replace H : (dragomanref11_Copy.l0 k l0_2 (l0_2.length : Int) 0 a0_0 y324 ([] : List (S61)) t327 a0_4 a0_5) = some (r1, r2, r3, r4, r5, r6) := H
   have A3 := aM A30
   clear A30
   have H' := aM H
   clear H
   go_enter Try.func30, Try.ntmps30
   try go_wp2_with (first | ((with_reducible refine gate_dst (N := 1) rfl ?_); refine box_event ?hg (N := 1) ?hd (cs := #[.int .i64 a0_0, .slice A0_1 l0_1.length c0_1, .slice A0_2 l0_2.length c0_2, .slice A0_3 l0_3.length c0_3, .int .u32 a0_4, .int .u32 a0_5]) (t := 46) ?hr ?_; (case hd => rfl); (case hg => rfl); (case hr => first | (go_simp; done) | (go_simp; rfl)); intro gb319 hg w4 hbox hb; have n0_ := aM (below_step (by repeat (first | (with_reducible first | exact HB.out | apply blA | apply blN | apply blD) | exact HB.out)) hb); have n1_ := aM (hbox); have n2_ := aM ((by rw [hg]; exact (below_size (by repeat (first | (with_reducible first | exact HB.out | apply blA | apply blN | apply blD) | exact HB.out))) : w.heap.size ≤ gb319)); have n3_ := aM ((by rw [hg]; exact (below_size (by repeat (first | (with_reducible first | exact HB.out | apply blA | apply blN | apply blD) | exact HB.out))) : w.heap.size ≤ gb319)); clear HB; have HB := n0_; have BK319 := n1_; have GW319 := n2_; have GE319 := n3_; clear n0_ n1_ n2_ n3_; clear hb hbox hg) | ((with_reducible refine gate_dst (N := 2) rfl ?_); refine box_event ?hg (N := 2) ?hd (cs := #[.int .i64 0, .slice none 0 0, .slice none 0 0, .slice none 0 0, .int .u32 0, .int .u32 0]) (t := 46) ?hr ?_; (case hd => rfl); (case hg => rfl); (case hr => first | (go_simp; done) | (go_simp; rfl)); intro gb320 hg w5 hbox hb; have n0_ := aM (blk_below (g := gb319) (o := .cells #[.int .i64 a0_0, .slice A0_1 l0_1.length c0_1, .slice A0_2 l0_2.length c0_2, .slice A0_3 l0_3.length c0_3, .int .u32 a0_4, .int .u32 a0_5] 46 (0, 0)) (up_ BK319.out) hb); have n1_ := aM (below_step (by repeat (first | (with_reducible first | exact HB.out | apply blA | apply blN | apply blD | refine bS ?_ GE319.out) | exact HB.out)) hb); have n2_ := aM (hbox); have n3_ := aM ((by rw [hg]; exact (below_size (by repeat (first | (with_reducible first | exact HB.out | apply blA | apply blN | apply blD | refine bS ?_ GE319.out) | exact HB.out))) : w.heap.size ≤ gb320)); have n4_ := aM ((by rw [hg]; exact (below_size (by repeat (first | (with_reducible first | exact HB.out | apply blA | apply blN | apply blD | refine bS ?_ GE319.out) | exact HB.out))) : w.heap.size ≤ gb320)); have n5_ := aM ((by rw [hg]; exact Nat.ne_of_lt (blk_lt (g := gb319) (o := .cells #[.int .i64 a0_0, .slice A0_1 l0_1.length c0_1, .slice A0_2 l0_2.length c0_2, .slice A0_3 l0_3.length c0_3, .int .u32 a0_4, .int .u32 a0_5] 46 (0, 0)) (up_ BK319.out)) : gb319 ≠ gb320)); have n6_ := aM ((by rw [hg]; exact Nat.ne_of_gt (blk_lt (g := gb319) (o := .cells #[.int .i64 a0_0, .slice A0_1 l0_1.length c0_1, .slice A0_2 l0_2.length c0_2, .slice A0_3 l0_3.length c0_3, .int .u32 a0_4, .int .u32 a0_5] 46 (0, 0)) (up_ BK319.out)) : gb320 ≠ gb319)); clear BK319; clear HB; have BK319 := n0_; have HB := n1_; have BK320 := n2_; have GW320 := n3_; have GE320 := n4_; have NB319_320 := n5_; have NB320_319 := n6_; clear n0_ n1_ n2_ n3_ n4_ n5_ n6_; clear hb hbox hg))
   have n0_ := aM (blk_drew BK319.out)
   have n1_ := aM (blk_drew BK320.out)
   have n2_ := aM (below_drew1 HB.out)
   clear BK319
   clear BK320
   clear HB
   have BK319 := n0_
   have BK320 := n1_
   have HB := n2_
   clear n0_ n1_ n2_
   refine start_ (n := 16) (S := fun w' => w'.cell? ⟨gb319, 0, none⟩ = some (.int .i64 a0_0) ∧ w'.cell? ⟨gb319, 1, none⟩ = some (.slice A0_1 l0_1.length c0_1) ∧ w'.cell? ⟨gb319, 2, none⟩ = some (.slice A0_2 l0_2.length c0_2) ∧ w'.cell? ⟨gb319, 3, none⟩ = some (.slice A0_3 l0_3.length c0_3) ∧ w'.cell? ⟨gb319, 4, none⟩ = some (.int .u32 a0_4) ∧ w'.cell? ⟨gb319, 5, none⟩ = some (.int .u32 a0_5)) (ds := []) (tf 0 16) (by kernel_rfl) rfl rfl ⟨(blk_cell BK319.out 0).trans rfl, (blk_cell BK319.out 1).trans rfl, (blk_cell BK319.out 2).trans rfl, (blk_cell BK319.out 3).trans rfl, (blk_cell BK319.out 4).trans rfl, (blk_cell BK319.out 5).trans rfl⟩ (fun hHeld => ?_); refine with_tabW dragomanref11_Copy.tab1 dragomanref11_Copy.bits1 (fun HT_ HW_ => ?_)
   generalize w5.drew = w6 at BK319 BK320 HB hHeld ⊢
   refine pure_ (i := 0) (N := some 6) (v := ?_) (a' := ?_) (tf 1 15) rfl rfl (any_of HT_.out (by kernel_rfl)) (fun _ _ _ h => h) (Or.inl ⟨by rfl, ?_⟩) ?_ ?_
   rotate_left
   · intro w'
     go_simp
     with_reducible rfl
   rotate_left
   · simp only [Act.put, sT, sZ, sS, i64_w, i32_w]
     rfl
   refine pure_ (i := 2) (N := some 8) (v := ?_) (a' := ?_) #[true, false, true, false, false, false, false, false, false, false, false, false, false, false, false, false] rfl rfl (any_of HT_.out (by kernel_rfl)) (fun _ _ _ h => h) (Or.inl ⟨by rfl, ?_⟩) ?_ ?_
   rotate_left
   · intro w'
     go_simp
     with_reducible rfl
   rotate_left
   · simp only [Act.put, sT, sZ, sS, i64_w, i32_w]
     rfl
   refine pure_ (i := 4) (N := some 10) (v := ?_) (a' := ?_) #[true, false, true, false, true, false, false, false, false, false, false, false, false, false, false, false] rfl rfl (any_of HT_.out (by kernel_rfl)) (fun _ _ _ h => h) (Or.inl ⟨by rfl, ?_⟩) ?_ ?_
   rotate_left
   · intro w'
     go_simp
     with_reducible rfl
   rotate_left
   · simp only [Act.put, sT, sZ, sS, i64_w, i32_w]
     rfl
   refine pure_ (i := 7) (N := some 13) (v := ?_) (a' := ?_) #[true, false, true, false, true, false, false, true, false, false, false, false, false, false, false, false] rfl rfl (any_of HT_.out (by kernel_rfl)) (fun _ _ _ h => h) (Or.inl ⟨by rfl, ?_⟩) ?_ ?_
   rotate_left
   · intro w'
     go_simp
     with_reducible rfl
   rotate_left
   · simp only [Act.put, sT, sZ, sS, i64_w, i32_w]
     rfl
   refine pure_ (i := 10) (N := some 16) (v := ?_) (a' := ?_) #[true, false, true, false, true, false, false, true, false, false, true, false, false, false, false, false] rfl rfl (any_of HT_.out (by kernel_rfl)) (fun _ _ _ h => h) (Or.inl ⟨by rfl, ?_⟩) ?_ ?_
   rotate_left
   · intro w'
     go_simp
     with_reducible rfl
   rotate_left
   · simp only [Act.put, sT, sZ, sS, i64_w, i32_w]
     rfl
   refine take_ (i := 1) (N := some 7) (v := ?_) (a' := ?_) #[true, true, true, false, true, false, false, true, false, false, true, false, false, false, false, false] rfl rfl (take_ofW HT_.out HW_.out (by kernel_rfl)) (fun _ _ _ h => h) (Or.inl ⟨by rfl, ?_⟩) hHeld ?_ ?_
   rotate_left
   · rintro w' ⟨s0, s1, s2, s3, s4, s5⟩
     go_simp
     with_reducible rfl
   rotate_left
   · simp only [Act.put, sT, sZ, sS, i64_w, i32_w]
     rfl
   refine take_ (i := 3) (N := some 9) (v := ?_) (a' := ?_) #[true, true, true, true, true, false, false, true, false, false, true, false, false, false, false, false] rfl rfl (take_ofW HT_.out HW_.out (by kernel_rfl)) (fun _ _ _ h => h) (Or.inl ⟨by rfl, ?_⟩) hHeld ?_ ?_
   rotate_left
   · rintro w' ⟨s0, s1, s2, s3, s4, s5⟩
     go_simp
     with_reducible rfl
   rotate_left
   · simp only [Act.put, sT, sZ, sS, i64_w, i32_w]
     rfl
   refine take_ (i := 5) (N := some 11) (v := ?_) (a' := ?_) #[true, true, true, true, true, true, false, true, false, false, true, false, false, false, false, false] rfl rfl (take_ofW HT_.out HW_.out (by kernel_rfl)) (fun _ _ _ h => h) (Or.inl ⟨by rfl, ?_⟩) hHeld ?_ ?_
   rotate_left
   · rintro w' ⟨s0, s1, s2, s3, s4, s5⟩
     go_simp
     with_reducible rfl
   rotate_left
   · simp only [Act.put, sT, sZ, sS, i64_w, i32_w]
     rfl
   refine take_ (i := 8) (N := some 14) (v := ?_) (a' := ?_) #[true, true, true, true, true, true, false, true, true, false, true, false, false, false, false, false] rfl rfl (take_ofW HT_.out HW_.out (by kernel_rfl)) (fun _ _ _ h => h) (Or.inl ⟨by rfl, ?_⟩) hHeld ?_ ?_
   rotate_left
   · rintro w' ⟨s0, s1, s2, s3, s4, s5⟩
     go_simp
     with_reducible rfl
   rotate_left
   · simp only [Act.put, sT, sZ, sS, i64_w, i32_w]
     rfl
   refine take_ (i := 11) (N := some 17) (v := ?_) (a' := ?_) #[true, true, true, true, true, true, false, true, true, false, true, true, false, false, false, false] rfl rfl (take_ofW HT_.out HW_.out (by kernel_rfl)) (fun _ _ _ h => h) (Or.inl ⟨by rfl, ?_⟩) hHeld ?_ ?_
   rotate_left
   · rintro w' ⟨s0, s1, s2, s3, s4, s5⟩
     go_simp
     with_reducible rfl
   rotate_left
   · simp only [Act.put, sT, sZ, sS, i64_w, i32_w]
     rfl
   refine join_ (σ := Value × Value × Value × Nat) 1 (tf 15 1) (fun s_ => [(12, s_.1), (15, s_.2.1), (18, s_.2.2.1), (3, .pointer (some ⟨s_.2.2.2, 0, none⟩)), (19, .agg #[.int .i64 a0_0, s_.2.1, .slice none 0 0, s_.2.2.1, .int .u32 a0_4, .int .u32 a0_5])]) (fun s_ w' => (w'.cell? ⟨gb319, 0, none⟩ = some (.int .i64 a0_0) ∧ w'.cell? ⟨gb319, 1, none⟩ = some (.slice A0_1 l0_1.length c0_1) ∧ w'.cell? ⟨gb319, 2, none⟩ = some (.slice A0_2 l0_2.length c0_2) ∧ w'.cell? ⟨gb319, 3, none⟩ = some (.slice A0_3 l0_3.length c0_3) ∧ w'.cell? ⟨gb319, 4, none⟩ = some (.int .u32 a0_4) ∧ w'.cell? ⟨gb319, 5, none⟩ = some (.int .u32 a0_5)) ∧ (Kd.R k83 83 w' w.heap.size (fun _ => True) s_.2.1 y324) ∧ (Kd.S k64 64 w' w.heap.size (fun _ => True) s_.2.2.1 t327) ∧ (w'.heap[gb319]? = some (.cells #[.int .i64 a0_0, .slice A0_1 l0_1.length c0_1, .slice A0_2 l0_2.length c0_2, .slice A0_3 l0_3.length c0_3, .int .u32 a0_4, .int .u32 a0_5] 46 (0, 0))) ∧ (w'.heap[gb320]? = some (.cells #[.int .i64 0, .slice none 0 0, .slice none 0 0, .slice none 0 0, .int .u32 0, .int .u32 0] 46 (0, 0))) ∧ (w'.heap[s_.2.2.2]? = some (.cells #[.int .i64 0, .slice none 0 0, .slice none 0 0, .slice none 0 0, .int .u32 0, .int .u32 0] 46 (0, 0))) ∧ (w.heap.size ≤ s_.2.2.2) ∧ (w.heap.size ≤ s_.2.2.2) ∧ (gb319 ≠ s_.2.2.2) ∧ (s_.2.2.2 ≠ gb319) ∧ (gb320 ≠ s_.2.2.2) ∧ (s_.2.2.2 ≠ gb320) ∧ (Below w.heap.size w w')) ?_ ?_
   rotate_left
   · intro hCont
     refine two_ (i := 6) (j := 14) (Ni := some 12) (Nj := some 3) #[true, true, true, true, true, true, true, true, true, false, true, true, false, false, false, false] #[true, true, true, true, true, true, false, true, true, false, true, true, false, false, true, false] rfl rfl rfl rfl (two_of HT_.out (by kernel_rfl)) (by decide) (by decide) (fun K hK => ?_) (fun K hK => ?_)
     · skip
       refine Kd.R_lit_step k83 _ 83 ?hg (N := 12) ?hd (xs := ([] : List (S83))) (inner := []) (ok := fun _ => True) (okp := fun _ => True) ?hr ?hp (fun _ hk => hk) trivial (Below.refl _ _) (Nat.le_refl _) (by simp) ?_; (case hd => rfl); (case hg => rfl); (case hr => first | (go_simp; done) | (go_simp; rfl)); (case hp => exact (Reps.none _ _))
       intro v322 w7 ho8 hb hg_ hnew_
       clear hg_ hnew_
       (first | rw [← Ny321.out] at ho8 | (simp only [Int.reduceToNat] at ho8; rw [← Ny321.out] at ho8))
       have n0_ := aM (Kd.R_lower ho8 (below_size (by repeat (first | (with_reducible first | exact HB.out | apply blA | apply blN | apply blD | refine bS ?_ GE319.out | refine bS ?_ GE320.out) | exact HB.out))))
       have n1_ := aM (blk_below (g := gb319) (o := .cells #[.int .i64 a0_0, .slice A0_1 l0_1.length c0_1, .slice A0_2 l0_2.length c0_2, .slice A0_3 l0_3.length c0_3, .int .u32 a0_4, .int .u32 a0_5] 46 (0, 0)) (up_ BK319.out) hb)
       have n2_ := aM (blk_below (g := gb320) (o := .cells #[.int .i64 0, .slice none 0 0, .slice none 0 0, .slice none 0 0, .int .u32 0, .int .u32 0] 46 (0, 0)) (up_ BK320.out) hb)
       have n3_ := aM (below_step (by repeat (first | (with_reducible first | exact HB.out | apply blA | apply blN | apply blD | refine bS ?_ GE319.out | refine bS ?_ GE320.out) | exact HB.out)) hb)
       clear BK319
       clear BK320
       clear HB
       have HO323 := n0_
       have BK319 := n1_
       have BK320 := n2_
       have HB := n3_
       clear n0_ n1_ n2_ n3_
       clear hb ho8
       refine hK.out _ _ ⟨(blk_cell BK319.out 0).trans rfl, (blk_cell BK319.out 1).trans rfl, (blk_cell BK319.out 2).trans rfl, (blk_cell BK319.out 3).trans rfl, (blk_cell BK319.out 4).trans rfl, (blk_cell BK319.out 5).trans rfl⟩ (fun hHeld => ?_)
       clear hK K
       refine norm_ (a' := ?_) ?_ ?_
       rotate_left
       · show Act.put _ (some 12) _ = _
         simp only [Act.put, sT, sZ, sS, i64_w, i32_w]
         rfl
       refine two_ (i := 9) (j := 14) (Ni := some 15) (Nj := some 3) (tf 12 4) #[true, true, true, true, true, true, true, true, true, false, true, true, false, false, true, false] rfl rfl rfl rfl (two_of HT_.out (by kernel_rfl)) (by decide) (by decide) (fun K hK => ?_) (fun K hK => ?_)
       · skip
         refine Kd.R_append_rows_step k83 (w0 := w) w.heap.size (by rfl) (.tmp 12) (.tmp 14) 42 83 (.agg #[(.bool false), (.int .u32 0), (.int .i64 0), (.int .i64 0), (.int .i64 0)]) 40 rfl Try.underlying42 info83 rfl (by decide) (by omega) v322 y321 l0_1 _ _ _ (fun _ => True) (fun _ => False) rfl rfl ?aO ?aR (fun _ _ h => h) (fun _ h => h.elim) ?aF ?aB ?aS ?aL ?_
         (case aR => repeat (first | exact (Kd.C_below HR0_1.out HB.out) | (with_reducible refine Kd.C_alloc ?_ _) | (with_reducible refine Kd.C_drewN ?_ _) | (with_reducible refine Kd.C_drew ?_)))
         (case aB => exact (by repeat (first | (with_reducible first | exact HB.out | apply blA | apply blN | apply blD | refine bS ?_ GE319.out | refine bS ?_ GE320.out) | exact HB.out)))
         (case aF => exact (fun _ _ => trivial))
         (case aO => exact (uk_ HO323.out))
         (case aS => exact (below_size (by repeat (first | (with_reducible first | exact HB.out | apply blA | apply blN | apply blD | refine bS ?_ GE319.out | refine bS ?_ GE320.out) | exact HB.out))))
         (case aL => have := LMc2.out; omega)
         intro v325 w9 ho hb hg hat
         rw [← Ny324.out] at ho
         have n0_ := aM (blk_grown (g := gb319) (o := .cells #[.int .i64 a0_0, .slice A0_1 l0_1.length c0_1, .slice A0_2 l0_2.length c0_2, .slice A0_3 l0_3.length c0_3, .int .u32 a0_4, .int .u32 a0_5] 46 (0, 0)) (up_ BK319.out) hg (Kd.R_ne HO323.out BK319.out (by decide)))
         have n1_ := aM (blk_grown (g := gb320) (o := .cells #[.int .i64 0, .slice none 0 0, .slice none 0 0, .slice none 0 0, .int .u32 0, .int .u32 0] 46 (0, 0)) (up_ BK320.out) hg (Kd.R_ne HO323.out BK320.out (by decide)))
         have n2_ := aM (hb)
         have n3_ := aM (ho)
         clear BK319
         clear BK320
         clear HB
         clear HO323
         have BK319 := n0_
         have BK320 := n1_
         have HB := n2_
         have HO326 := n3_
         clear n0_ n1_ n2_ n3_
         clear ho hb hg hat
         refine hK.out _ _ ⟨(blk_cell BK319.out 0).trans rfl, (blk_cell BK319.out 1).trans rfl, (blk_cell BK319.out 2).trans rfl, (blk_cell BK319.out 3).trans rfl, (blk_cell BK319.out 4).trans rfl, (blk_cell BK319.out 5).trans rfl⟩ (fun hHeld => ?_)
         clear hK K
         refine norm_ (a' := ?_) ?_ ?_
         rotate_left
         · show Act.put _ (some 15) _ = _
           simp only [Act.put, sT, sZ, sS, i64_w, i32_w]
           rfl
         refine two_ (i := 12) (j := 14) (Ni := some 18) (Nj := some 3) (tf 13 3) #[true, true, true, true, true, true, true, true, true, true, true, true, false, false, true, false] rfl rfl rfl rfl (two_of HT_.out (by kernel_rfl)) (by decide) (by decide) (fun K hK => ?_) (fun K hK => ?_)
         · skip
           refine goes_ Try.func52 (by kernel_rfl) rfl #[.slice A0_3 l0_3.length c0_3] (by rfl) rfl rfl (by (try simp only [List.map_toArray, List.map_cons, List.map_nil]); first | done | rfl | (simp only [List.length_drop, List.length_take]; rfl)) ?_
           with_reducible refine (dragomanref11_CopyComms.calls k _ _ l0_3 t327 _ ?side1 ?side2 A3.out).mono ?_
           (case side1 => repeat (first | exact (Kd.C_below HR0_3.out HB.out) | (with_reducible refine Kd.C_alloc ?_ _) | (with_reducible refine Kd.C_drewN ?_ _) | (with_reducible refine Kd.C_drew ?_)))
           (case side2 => exact HC0_3.out)
           rintro e w10 ⟨v328, rfl, ho0, hb⟩
           refine ⟨_, rfl, ?_⟩
           have n0_ := aM (Kd.R_below (uk_ HO326.out) hb)
           have n1_ := aM (Kd.S_lower ho0 (below_size (by repeat (first | (with_reducible first | exact HB.out | apply blA | apply blN | apply blD | refine bS ?_ GE319.out | refine bS ?_ GE320.out) | exact HB.out))))
           have n2_ := aM (blk_below (g := gb319) (o := .cells #[.int .i64 a0_0, .slice A0_1 l0_1.length c0_1, .slice A0_2 l0_2.length c0_2, .slice A0_3 l0_3.length c0_3, .int .u32 a0_4, .int .u32 a0_5] 46 (0, 0)) (up_ BK319.out) hb)
           have n3_ := aM (blk_below (g := gb320) (o := .cells #[.int .i64 0, .slice none 0 0, .slice none 0 0, .slice none 0 0, .int .u32 0, .int .u32 0] 46 (0, 0)) (up_ BK320.out) hb)
           have n4_ := aM (below_step (by repeat (first | (with_reducible first | exact HB.out | apply blA | apply blN | apply blD | refine bS ?_ GE319.out | refine bS ?_ GE320.out) | exact HB.out)) hb)
           clear HO326
           clear BK319
           clear BK320
           clear HB
           have HO326 := n0_
           have HO329 := n1_
           have BK319 := n2_
           have BK320 := n3_
           have HB := n4_
           clear n0_ n1_ n2_ n3_ n4_
           (try clear hb)
           (try clear hb2)
           (try clear hk)
           (try clear hi)
           (try clear ho0)
           obtain ⟨Ao11, co11, eo11⟩ := Kd.S_slice HO329.out
           (first | subst eo11 | (injection eo11 with f1_ f2_ f3_; have f4_ := f1_.symm; have f5_ := f3_.symm; clear f1_ f2_ f3_; subst f4_; subst f5_))
           obtain ⟨Ao12, co12, eo12⟩ := Kd.R_slice HO326.out
           (first | subst eo12 | (injection eo12 with f1_ f2_ f3_; have f4_ := f1_.symm; have f5_ := f3_.symm; clear f1_ f2_ f3_; subst f4_; subst f5_))
           refine hK.out _ _ ⟨(blk_cell BK319.out 0).trans rfl, (blk_cell BK319.out 1).trans rfl, (blk_cell BK319.out 2).trans rfl, (blk_cell BK319.out 3).trans rfl, (blk_cell BK319.out 4).trans rfl, (blk_cell BK319.out 5).trans rfl⟩ (fun hHeld => ?_)
           clear hK K
           refine norm_ (a' := ?_) ?_ ?_
           rotate_left
           · show Act.put _ (some 18) _ = _
             simp only [Act.put, sT, sZ, sS, i64_w, i32_w]
             rfl
           refine pure_ (i := 13) (N := some 19) (v := ?_) (a' := ?_) (tf 14 2) rfl rfl (any_of HT_.out (by kernel_rfl)) (fun _ _ _ h => h) (Or.inl ⟨by rfl, ?_⟩) ?_ ?_
           rotate_left
           · intro w'
             go_simp
             with_reducible rfl
           rotate_left
           · simp only [Act.put, sT, sZ, sS, i64_w, i32_w]
             rfl
           refine one_ (i := 14) (N := some 3) (tf 15 1) rfl rfl (one_of HT_.out (by kernel_rfl)) (by decide) (fun K hK => ?_)
           refine box_step ?hg (N := 3) ?hd (cs := #[.int .i64 0, .slice none 0 0, .slice none 0 0, .slice none 0 0, .int .u32 0, .int .u32 0]) (t := 46) ?hr ?_; (case hd => rfl); (case hg => rfl); (case hr => first | (go_simp; done) | (go_simp; rfl))
           intro gb330 hg w13 hbox hb
           have n0_ := aM (Kd.R_below (uk_ HO326.out) hb)
           have n1_ := aM (Kd.S_below (by (with_reducible repeat (first | apply Kd.S_alloc | apply Kd.S_drewN | apply Kd.S_drew)); exact HO329.out) hb)
           have n2_ := aM (blk_below (g := gb319) (o := .cells #[.int .i64 a0_0, .slice A0_1 l0_1.length c0_1, .slice A0_2 l0_2.length c0_2, .slice A0_3 l0_3.length c0_3, .int .u32 a0_4, .int .u32 a0_5] 46 (0, 0)) (up_ BK319.out) hb)
           have n3_ := aM (blk_below (g := gb320) (o := .cells #[.int .i64 0, .slice none 0 0, .slice none 0 0, .slice none 0 0, .int .u32 0, .int .u32 0] 46 (0, 0)) (up_ BK320.out) hb)
           have n4_ := aM (below_step (by repeat (first | (with_reducible first | exact HB.out | apply blA | apply blN | apply blD | refine bS ?_ GE319.out | refine bS ?_ GE320.out) | exact HB.out)) hb)
           have n5_ := aM (hbox)
           have n6_ := aM ((by rw [hg]; exact (below_size (by repeat (first | (with_reducible first | exact HB.out | apply blA | apply blN | apply blD | refine bS ?_ GE319.out | refine bS ?_ GE320.out) | exact HB.out))) : w.heap.size ≤ gb330))
           have n7_ := aM ((by rw [hg]; exact (below_size (by repeat (first | (with_reducible first | exact HB.out | apply blA | apply blN | apply blD | refine bS ?_ GE319.out | refine bS ?_ GE320.out) | exact HB.out))) : w.heap.size ≤ gb330))
           have n8_ := aM ((by rw [hg]; exact Nat.ne_of_lt (blk_lt (g := gb319) (o := .cells #[.int .i64 a0_0, .slice A0_1 l0_1.length c0_1, .slice A0_2 l0_2.length c0_2, .slice A0_3 l0_3.length c0_3, .int .u32 a0_4, .int .u32 a0_5] 46 (0, 0)) (up_ BK319.out)) : gb319 ≠ gb330))
           have n9_ := aM ((by rw [hg]; exact Nat.ne_of_gt (blk_lt (g := gb319) (o := .cells #[.int .i64 a0_0, .slice A0_1 l0_1.length c0_1, .slice A0_2 l0_2.length c0_2, .slice A0_3 l0_3.length c0_3, .int .u32 a0_4, .int .u32 a0_5] 46 (0, 0)) (up_ BK319.out)) : gb330 ≠ gb319))
           have n10_ := aM ((by rw [hg]; exact Nat.ne_of_lt (blk_lt (g := gb320) (o := .cells #[.int .i64 0, .slice none 0 0, .slice none 0 0, .slice none 0 0, .int .u32 0, .int .u32 0] 46 (0, 0)) (up_ BK320.out)) : gb320 ≠ gb330))
           have n11_ := aM ((by rw [hg]; exact Nat.ne_of_gt (blk_lt (g := gb320) (o := .cells #[.int .i64 0, .slice none 0 0, .slice none 0 0, .slice none 0 0, .int .u32 0, .int .u32 0] 46 (0, 0)) (up_ BK320.out)) : gb330 ≠ gb320))
           clear HO326
           clear HO329
           clear BK319
           clear BK320
           clear HB
           have HO326 := n0_
           have HO329 := n1_
           have BK319 := n2_
           have BK320 := n3_
           have HB := n4_
           have BK330 := n5_
           have GW330 := n6_
           have GE330 := n7_
           have NB319_330 := n8_
           have NB330_319 := n9_
           have NB320_330 := n10_
           have NB330_320 := n11_
           clear n0_ n1_ n2_ n3_ n4_ n5_ n6_ n7_ n8_ n9_ n10_ n11_
           clear hb hbox hg
           refine hK.out _ _ ⟨(blk_cell BK319.out 0).trans rfl, (blk_cell BK319.out 1).trans rfl, (blk_cell BK319.out 2).trans rfl, (blk_cell BK319.out 3).trans rfl, (blk_cell BK319.out 4).trans rfl, (blk_cell BK319.out 5).trans rfl⟩ (fun hHeld => ?_)
           clear hK K
           refine norm_ (a' := ?_) ?_ ?_
           rotate_left
           · show Act.put _ (some 3) _ = _
             simp only [Act.put, sT, sZ, sS, i64_w, i32_w]
             rfl
           exact norm_ (by simp only [putAll, Act.put, sT, sZ, sS]) (hCont (v322, .slice Ao12 y324.length co12, .slice Ao11 t327.length co11, gb330) _ ⟨hHeld, (uk_ HO326.out), (by (with_reducible repeat (first | apply Kd.S_alloc | apply Kd.S_drewN | apply Kd.S_drew)); exact HO329.out), (up_ BK319.out), (up_ BK320.out), (up_ BK330.out), GW330.out, GE330.out, NB319_330.out, NB330_319.out, NB320_330.out, NB330_320.out, (by repeat (first | (with_reducible first | exact HB.out | apply blA | apply blN | apply blD | refine bS ?_ GE319.out | refine bS ?_ GE320.out | refine bS ?_ GE330.out) | exact HB.out))⟩)
         · skip
           refine box_step ?hg (N := 3) ?hd (cs := #[.int .i64 0, .slice none 0 0, .slice none 0 0, .slice none 0 0, .int .u32 0, .int .u32 0]) (t := 46) ?hr ?_; (case hd => rfl); (case hg => rfl); (case hr => first | (go_simp; done) | (go_simp; rfl))
           intro gb330 hg w10 hbox hb
           have n0_ := aM (Kd.R_below (uk_ HO326.out) hb)
           have n1_ := aM (blk_below (g := gb319) (o := .cells #[.int .i64 a0_0, .slice A0_1 l0_1.length c0_1, .slice A0_2 l0_2.length c0_2, .slice A0_3 l0_3.length c0_3, .int .u32 a0_4, .int .u32 a0_5] 46 (0, 0)) (up_ BK319.out) hb)
           have n2_ := aM (blk_below (g := gb320) (o := .cells #[.int .i64 0, .slice none 0 0, .slice none 0 0, .slice none 0 0, .int .u32 0, .int .u32 0] 46 (0, 0)) (up_ BK320.out) hb)
           have n3_ := aM (below_step (by repeat (first | (with_reducible first | exact HB.out | apply blA | apply blN | apply blD | refine bS ?_ GE319.out | refine bS ?_ GE320.out) | exact HB.out)) hb)
           have n4_ := aM (hbox)
           have n5_ := aM ((by rw [hg]; exact (below_size (by repeat (first | (with_reducible first | exact HB.out | apply blA | apply blN | apply blD | refine bS ?_ GE319.out | refine bS ?_ GE320.out) | exact HB.out))) : w.heap.size ≤ gb330))
           have n6_ := aM ((by rw [hg]; exact (below_size (by repeat (first | (with_reducible first | exact HB.out | apply blA | apply blN | apply blD | refine bS ?_ GE319.out | refine bS ?_ GE320.out) | exact HB.out))) : w.heap.size ≤ gb330))
           have n7_ := aM ((by rw [hg]; exact Nat.ne_of_lt (blk_lt (g := gb319) (o := .cells #[.int .i64 a0_0, .slice A0_1 l0_1.length c0_1, .slice A0_2 l0_2.length c0_2, .slice A0_3 l0_3.length c0_3, .int .u32 a0_4, .int .u32 a0_5] 46 (0, 0)) (up_ BK319.out)) : gb319 ≠ gb330))
           have n8_ := aM ((by rw [hg]; exact Nat.ne_of_gt (blk_lt (g := gb319) (o := .cells #[.int .i64 a0_0, .slice A0_1 l0_1.length c0_1, .slice A0_2 l0_2.length c0_2, .slice A0_3 l0_3.length c0_3, .int .u32 a0_4, .int .u32 a0_5] 46 (0, 0)) (up_ BK319.out)) : gb330 ≠ gb319))
           have n9_ := aM ((by rw [hg]; exact Nat.ne_of_lt (blk_lt (g := gb320) (o := .cells #[.int .i64 0, .slice none 0 0, .slice none 0 0, .slice none 0 0, .int .u32 0, .int .u32 0] 46 (0, 0)) (up_ BK320.out)) : gb320 ≠ gb330))
           have n10_ := aM ((by rw [hg]; exact Nat.ne_of_gt (blk_lt (g := gb320) (o := .cells #[.int .i64 0, .slice none 0 0, .slice none 0 0, .slice none 0 0, .int .u32 0, .int .u32 0] 46 (0, 0)) (up_ BK320.out)) : gb330 ≠ gb320))
           clear HO326
           clear BK319
           clear BK320
           clear HB
           have HO326 := n0_
           have BK319 := n1_
           have BK320 := n2_
           have HB := n3_
           have BK330 := n4_
           have GW330 := n5_
           have GE330 := n6_
           have NB319_330 := n7_
           have NB330_319 := n8_
           have NB320_330 := n9_
           have NB330_320 := n10_
           clear n0_ n1_ n2_ n3_ n4_ n5_ n6_ n7_ n8_ n9_ n10_
           clear hb hbox hg
           refine hK.out _ _ ⟨(blk_cell BK319.out 0).trans rfl, (blk_cell BK319.out 1).trans rfl, (blk_cell BK319.out 2).trans rfl, (blk_cell BK319.out 3).trans rfl, (blk_cell BK319.out 4).trans rfl, (blk_cell BK319.out 5).trans rfl⟩ (fun hHeld => ?_)
           clear hK K
           refine norm_ (a' := ?_) ?_ ?_
           rotate_left
           · show Act.put _ (some 3) _ = _
             simp only [Act.put, sT, sZ, sS, i64_w, i32_w]
             rfl
           refine one_ (i := 12) (N := some 18) #[true, true, true, true, true, true, true, true, true, true, true, true, true, false, true, false] rfl rfl (one_of HT_.out (by kernel_rfl)) (by decide) (fun K hK => ?_)
           refine goes_ Try.func52 (by kernel_rfl) rfl #[.slice A0_3 l0_3.length c0_3] (by rfl) rfl rfl (by (try simp only [List.map_toArray, List.map_cons, List.map_nil]); first | done | rfl | (simp only [List.length_drop, List.length_take]; rfl)) ?_
           with_reducible refine (dragomanref11_CopyComms.calls k _ _ l0_3 t327 _ ?side1 ?side2 A3.out).mono ?_
           (case side1 => repeat (first | exact (Kd.C_below HR0_3.out HB.out) | (with_reducible refine Kd.C_alloc ?_ _) | (with_reducible refine Kd.C_drewN ?_ _) | (with_reducible refine Kd.C_drew ?_)))
           (case side2 => exact HC0_3.out)
           rintro e w11 ⟨v328, rfl, ho0, hb⟩
           refine ⟨_, rfl, ?_⟩
           have n0_ := aM (Kd.R_below (uk_ HO326.out) hb)
           have n1_ := aM (Kd.S_lower ho0 (below_size (by repeat (first | (with_reducible first | exact HB.out | apply blA | apply blN | apply blD | refine bS ?_ GE319.out | refine bS ?_ GE320.out | refine bS ?_ GE330.out) | exact HB.out))))
           have n2_ := aM (blk_below (g := gb319) (o := .cells #[.int .i64 a0_0, .slice A0_1 l0_1.length c0_1, .slice A0_2 l0_2.length c0_2, .slice A0_3 l0_3.length c0_3, .int .u32 a0_4, .int .u32 a0_5] 46 (0, 0)) (up_ BK319.out) hb)
           have n3_ := aM (blk_below (g := gb320) (o := .cells #[.int .i64 0, .slice none 0 0, .slice none 0 0, .slice none 0 0, .int .u32 0, .int .u32 0] 46 (0, 0)) (up_ BK320.out) hb)
           have n4_ := aM (blk_below (g := gb330) (o := .cells #[.int .i64 0, .slice none 0 0, .slice none 0 0, .slice none 0 0, .int .u32 0, .int .u32 0] 46 (0, 0)) (up_ BK330.out) hb)
           have n5_ := aM (below_step (by repeat (first | (with_reducible first | exact HB.out | apply blA | apply blN | apply blD | refine bS ?_ GE319.out | refine bS ?_ GE320.out | refine bS ?_ GE330.out) | exact HB.out)) hb)
           clear HO326
           clear BK319
           clear BK320
           clear BK330
           clear HB
           have HO326 := n0_
           have HO329 := n1_
           have BK319 := n2_
           have BK320 := n3_
           have BK330 := n4_
           have HB := n5_
           clear n0_ n1_ n2_ n3_ n4_ n5_
           (try clear hb)
           (try clear hb2)
           (try clear hk)
           (try clear hi)
           (try clear ho0)
           obtain ⟨Ao12, co12, eo12⟩ := Kd.S_slice HO329.out
           (first | subst eo12 | (injection eo12 with f1_ f2_ f3_; have f4_ := f1_.symm; have f5_ := f3_.symm; clear f1_ f2_ f3_; subst f4_; subst f5_))
           obtain ⟨Ao13, co13, eo13⟩ := Kd.R_slice HO326.out
           (first | subst eo13 | (injection eo13 with f1_ f2_ f3_; have f4_ := f1_.symm; have f5_ := f3_.symm; clear f1_ f2_ f3_; subst f4_; subst f5_))
           refine hK.out _ _ ⟨(blk_cell BK319.out 0).trans rfl, (blk_cell BK319.out 1).trans rfl, (blk_cell BK319.out 2).trans rfl, (blk_cell BK319.out 3).trans rfl, (blk_cell BK319.out 4).trans rfl, (blk_cell BK319.out 5).trans rfl⟩ (fun hHeld => ?_)
           clear hK K
           refine norm_ (a' := ?_) ?_ ?_
           rotate_left
           · show Act.put _ (some 18) _ = _
             simp only [Act.put, sT, sZ, sS, i64_w, i32_w]
             rfl
           refine pure_ (i := 13) (N := some 19) (v := ?_) (a' := ?_) (tf 15 1) rfl rfl (any_of HT_.out (by kernel_rfl)) (fun _ _ _ h => h) (Or.inl ⟨by rfl, ?_⟩) ?_ ?_
           rotate_left
           · intro w'
             go_simp
             with_reducible rfl
           rotate_left
           · simp only [Act.put, sT, sZ, sS, i64_w, i32_w]
             rfl
           exact norm_ (by simp only [putAll, Act.put, sT, sZ, sS]) (hCont (v322, .slice Ao13 y324.length co13, .slice Ao12 t327.length co12, gb330) _ ⟨hHeld, (uk_ HO326.out), (by (with_reducible repeat (first | apply Kd.S_alloc | apply Kd.S_drewN | apply Kd.S_drew)); exact HO329.out), (up_ BK319.out), (up_ BK320.out), (up_ BK330.out), GW330.out, GE330.out, NB319_330.out, NB330_319.out, NB320_330.out, NB330_320.out, (by repeat (first | (with_reducible first | exact HB.out | apply blA | apply blN | apply blD | refine bS ?_ GE319.out | refine bS ?_ GE320.out | refine bS ?_ GE330.out) | exact HB.out))⟩)
       · skip
         refine box_step ?hg (N := 3) ?hd (cs := #[.int .i64 0, .slice none 0 0, .slice none 0 0, .slice none 0 0, .int .u32 0, .int .u32 0]) (t := 46) ?hr ?_; (case hd => rfl); (case hg => rfl); (case hr => first | (go_simp; done) | (go_simp; rfl))
         intro gb330 hg w9 hbox hb
         have n0_ := aM (Kd.R_below (uk_ HO323.out) hb)
         have n1_ := aM (blk_below (g := gb319) (o := .cells #[.int .i64 a0_0, .slice A0_1 l0_1.length c0_1, .slice A0_2 l0_2.length c0_2, .slice A0_3 l0_3.length c0_3, .int .u32 a0_4, .int .u32 a0_5] 46 (0, 0)) (up_ BK319.out) hb)
         have n2_ := aM (blk_below (g := gb320) (o := .cells #[.int .i64 0, .slice none 0 0, .slice none 0 0, .slice none 0 0, .int .u32 0, .int .u32 0] 46 (0, 0)) (up_ BK320.out) hb)
         have n3_ := aM (below_step (by repeat (first | (with_reducible first | exact HB.out | apply blA | apply blN | apply blD | refine bS ?_ GE319.out | refine bS ?_ GE320.out) | exact HB.out)) hb)
         have n4_ := aM (hbox)
         have n5_ := aM ((by rw [hg]; exact (below_size (by repeat (first | (with_reducible first | exact HB.out | apply blA | apply blN | apply blD | refine bS ?_ GE319.out | refine bS ?_ GE320.out) | exact HB.out))) : w.heap.size ≤ gb330))
         have n6_ := aM ((by rw [hg]; exact (below_size (by repeat (first | (with_reducible first | exact HB.out | apply blA | apply blN | apply blD | refine bS ?_ GE319.out | refine bS ?_ GE320.out) | exact HB.out))) : w.heap.size ≤ gb330))
         have n7_ := aM ((by rw [hg]; exact Nat.ne_of_lt (blk_lt (g := gb319) (o := .cells #[.int .i64 a0_0, .slice A0_1 l0_1.length c0_1, .slice A0_2 l0_2.length c0_2, .slice A0_3 l0_3.length c0_3, .int .u32 a0_4, .int .u32 a0_5] 46 (0, 0)) (up_ BK319.out)) : gb319 ≠ gb330))
         have n8_ := aM ((by rw [hg]; exact Nat.ne_of_gt (blk_lt (g := gb319) (o := .cells #[.int .i64 a0_0, .slice A0_1 l0_1.length c0_1, .slice A0_2 l0_2.length c0_2, .slice A0_3 l0_3.length c0_3, .int .u32 a0_4, .int .u32 a0_5] 46 (0, 0)) (up_ BK319.out)) : gb330 ≠ gb319))
         have n9_ := aM ((by rw [hg]; exact Nat.ne_of_lt (blk_lt (g := gb320) (o := .cells #[.int .i64 0, .slice none 0 0, .slice none 0 0, .slice none 0 0, .int .u32 0, .int .u32 0] 46 (0, 0)) (up_ BK320.out)) : gb320 ≠ gb330))
         have n10_ := aM ((by rw [hg]; exact Nat.ne_of_gt (blk_lt (g := gb320) (o := .cells #[.int .i64 0, .slice none 0 0, .slice none 0 0, .slice none 0 0, .int .u32 0, .int .u32 0] 46 (0, 0)) (up_ BK320.out)) : gb330 ≠ gb320))
         clear HO323
         clear BK319
         clear BK320
         clear HB
         have HO323 := n0_
         have BK319 := n1_
         have BK320 := n2_
         have HB := n3_
         have BK330 := n4_
         have GW330 := n5_
         have GE330 := n6_
         have NB319_330 := n7_
         have NB330_319 := n8_
         have NB320_330 := n9_
         have NB330_320 := n10_
         clear n0_ n1_ n2_ n3_ n4_ n5_ n6_ n7_ n8_ n9_ n10_
         clear hb hbox hg
         refine hK.out _ _ ⟨(blk_cell BK319.out 0).trans rfl, (blk_cell BK319.out 1).trans rfl, (blk_cell BK319.out 2).trans rfl, (blk_cell BK319.out 3).trans rfl, (blk_cell BK319.out 4).trans rfl, (blk_cell BK319.out 5).trans rfl⟩ (fun hHeld => ?_)
         clear hK K
         refine norm_ (a' := ?_) ?_ ?_
         rotate_left
         · show Act.put _ (some 3) _ = _
           simp only [Act.put, sT, sZ, sS, i64_w, i32_w]
           rfl
         refine one_ (i := 9) (N := some 15) #[true, true, true, true, true, true, true, true, true, true, true, true, false, false, true, false] rfl rfl (one_of HT_.out (by kernel_rfl)) (by decide) (fun K hK => ?_)
         refine Kd.R_append_rows_step k83 (w0 := w) w.heap.size (by rfl) (.tmp 12) (.tmp 14) 42 83 (.agg #[(.bool false), (.int .u32 0), (.int .i64 0), (.int .i64 0), (.int .i64 0)]) 40 rfl Try.underlying42 info83 rfl (by decide) (by omega) v322 y321 l0_1 _ _ _ (fun _ => True) (fun _ => False) rfl rfl ?aO ?aR (fun _ _ h => h) (fun _ h => h.elim) ?aF ?aB ?aS ?aL ?_
         (case aR => repeat (first | exact (Kd.C_below HR0_1.out HB.out) | (with_reducible refine Kd.C_alloc ?_ _) | (with_reducible refine Kd.C_drewN ?_ _) | (with_reducible refine Kd.C_drew ?_)))
         (case aB => exact (by repeat (first | (with_reducible first | exact HB.out | apply blA | apply blN | apply blD | refine bS ?_ GE319.out | refine bS ?_ GE320.out | refine bS ?_ GE330.out) | exact HB.out)))
         (case aF => exact (fun _ _ => trivial))
         (case aO => exact (uk_ HO323.out))
         (case aS => exact (below_size (by repeat (first | (with_reducible first | exact HB.out | apply blA | apply blN | apply blD | refine bS ?_ GE319.out | refine bS ?_ GE320.out | refine bS ?_ GE330.out) | exact HB.out))))
         (case aL => have := LMc2.out; omega)
         intro v325 w10 ho hb hg hat
         rw [← Ny324.out] at ho
         have n0_ := aM (blk_grown (g := gb319) (o := .cells #[.int .i64 a0_0, .slice A0_1 l0_1.length c0_1, .slice A0_2 l0_2.length c0_2, .slice A0_3 l0_3.length c0_3, .int .u32 a0_4, .int .u32 a0_5] 46 (0, 0)) (up_ BK319.out) hg (Kd.R_ne HO323.out BK319.out (by decide)))
         have n1_ := aM (blk_grown (g := gb320) (o := .cells #[.int .i64 0, .slice none 0 0, .slice none 0 0, .slice none 0 0, .int .u32 0, .int .u32 0] 46 (0, 0)) (up_ BK320.out) hg (Kd.R_ne HO323.out BK320.out (by decide)))
         have n2_ := aM (blk_grown (g := gb330) (o := .cells #[.int .i64 0, .slice none 0 0, .slice none 0 0, .slice none 0 0, .int .u32 0, .int .u32 0] 46 (0, 0)) (up_ BK330.out) hg (Kd.R_ne HO323.out BK330.out (by decide)))
         have n3_ := aM (hb)
         have n4_ := aM (ho)
         clear BK319
         clear BK320
         clear BK330
         clear HB
         clear HO323
         have BK319 := n0_
         have BK320 := n1_
         have BK330 := n2_
         have HB := n3_
         have HO326 := n4_
         clear n0_ n1_ n2_ n3_ n4_
         clear ho hb hg hat
         refine hK.out _ _ ⟨(blk_cell BK319.out 0).trans rfl, (blk_cell BK319.out 1).trans rfl, (blk_cell BK319.out 2).trans rfl, (blk_cell BK319.out 3).trans rfl, (blk_cell BK319.out 4).trans rfl, (blk_cell BK319.out 5).trans rfl⟩ (fun hHeld => ?_)
         clear hK K
         refine norm_ (a' := ?_) ?_ ?_
         rotate_left
         · show Act.put _ (some 15) _ = _
           simp only [Act.put, sT, sZ, sS, i64_w, i32_w]
           rfl
         refine one_ (i := 12) (N := some 18) #[true, true, true, true, true, true, true, true, true, true, true, true, true, false, true, false] rfl rfl (one_of HT_.out (by kernel_rfl)) (by decide) (fun K hK => ?_)
         refine goes_ Try.func52 (by kernel_rfl) rfl #[.slice A0_3 l0_3.length c0_3] (by rfl) rfl rfl (by (try simp only [List.map_toArray, List.map_cons, List.map_nil]); first | done | rfl | (simp only [List.length_drop, List.length_take]; rfl)) ?_
         with_reducible refine (dragomanref11_CopyComms.calls k _ _ l0_3 t327 _ ?side1 ?side2 A3.out).mono ?_
         (case side1 => repeat (first | exact (Kd.C_below HR0_3.out HB.out) | (with_reducible refine Kd.C_alloc ?_ _) | (with_reducible refine Kd.C_drewN ?_ _) | (with_reducible refine Kd.C_drew ?_)))
         (case side2 => exact HC0_3.out)
         rintro e w11 ⟨v328, rfl, ho0, hb⟩
         refine ⟨_, rfl, ?_⟩
         have n0_ := aM (Kd.R_below (uk_ HO326.out) hb)
         have n1_ := aM (Kd.S_lower ho0 (below_size (by repeat (first | (with_reducible first | exact HB.out | apply blA | apply blN | apply blD | refine bS ?_ GE319.out | refine bS ?_ GE320.out | refine bS ?_ GE330.out) | exact HB.out))))
         have n2_ := aM (blk_below (g := gb319) (o := .cells #[.int .i64 a0_0, .slice A0_1 l0_1.length c0_1, .slice A0_2 l0_2.length c0_2, .slice A0_3 l0_3.length c0_3, .int .u32 a0_4, .int .u32 a0_5] 46 (0, 0)) (up_ BK319.out) hb)
         have n3_ := aM (blk_below (g := gb320) (o := .cells #[.int .i64 0, .slice none 0 0, .slice none 0 0, .slice none 0 0, .int .u32 0, .int .u32 0] 46 (0, 0)) (up_ BK320.out) hb)
         have n4_ := aM (blk_below (g := gb330) (o := .cells #[.int .i64 0, .slice none 0 0, .slice none 0 0, .slice none 0 0, .int .u32 0, .int .u32 0] 46 (0, 0)) (up_ BK330.out) hb)
         have n5_ := aM (below_step (by repeat (first | (with_reducible first | exact HB.out | apply blA | apply blN | apply blD | refine bS ?_ GE319.out | refine bS ?_ GE320.out | refine bS ?_ GE330.out) | exact HB.out)) hb)
         clear HO326
         clear BK319
         clear BK320
         clear BK330
         clear HB
         have HO326 := n0_
         have HO329 := n1_
         have BK319 := n2_
         have BK320 := n3_
         have BK330 := n4_
         have HB := n5_
         clear n0_ n1_ n2_ n3_ n4_ n5_
         (try clear hb)
         (try clear hb2)
         (try clear hk)
         (try clear hi)
         (try clear ho0)
         obtain ⟨Ao12, co12, eo12⟩ := Kd.S_slice HO329.out
         (first | subst eo12 | (injection eo12 with f1_ f2_ f3_; have f4_ := f1_.symm; have f5_ := f3_.symm; clear f1_ f2_ f3_; subst f4_; subst f5_))
         obtain ⟨Ao13, co13, eo13⟩ := Kd.R_slice HO326.out
         (first | subst eo13 | (injection eo13 with f1_ f2_ f3_; have f4_ := f1_.symm; have f5_ := f3_.symm; clear f1_ f2_ f3_; subst f4_; subst f5_))
         refine hK.out _ _ ⟨(blk_cell BK319.out 0).trans rfl, (blk_cell BK319.out 1).trans rfl, (blk_cell BK319.out 2).trans rfl, (blk_cell BK319.out 3).trans rfl, (blk_cell BK319.out 4).trans rfl, (blk_cell BK319.out 5).trans rfl⟩ (fun hHeld => ?_)
         clear hK K
         refine norm_ (a' := ?_) ?_ ?_
         rotate_left
         · show Act.put _ (some 18) _ = _
           simp only [Act.put, sT, sZ, sS, i64_w, i32_w]
           rfl
         refine pure_ (i := 13) (N := some 19) (v := ?_) (a' := ?_) (tf 15 1) rfl rfl (any_of HT_.out (by kernel_rfl)) (fun _ _ _ h => h) (Or.inl ⟨by rfl, ?_⟩) ?_ ?_
         rotate_left
         · intro w'
           go_simp
           with_reducible rfl
         rotate_left
         · simp only [Act.put, sT, sZ, sS, i64_w, i32_w]
           rfl
         exact norm_ (by simp only [putAll, Act.put, sT, sZ, sS]) (hCont (v322, .slice Ao13 y324.length co13, .slice Ao12 t327.length co12, gb330) _ ⟨hHeld, (uk_ HO326.out), (by (with_reducible repeat (first | apply Kd.S_alloc | apply Kd.S_drewN | apply Kd.S_drew)); exact HO329.out), (up_ BK319.out), (up_ BK320.out), (up_ BK330.out), GW330.out, GE330.out, NB319_330.out, NB330_319.out, NB320_330.out, NB330_320.out, (by repeat (first | (with_reducible first | exact HB.out | apply blA | apply blN | apply blD | refine bS ?_ GE319.out | refine bS ?_ GE320.out | refine bS ?_ GE330.out) | exact HB.out))⟩)
     · skip
       refine box_step ?hg (N := 3) ?hd (cs := #[.int .i64 0, .slice none 0 0, .slice none 0 0, .slice none 0 0, .int .u32 0, .int .u32 0]) (t := 46) ?hr ?_; (case hd => rfl); (case hg => rfl); (case hr => first | (go_simp; done) | (go_simp; rfl))
       intro gb330 hg w7 hbox hb
       have n0_ := aM (blk_below (g := gb319) (o := .cells #[.int .i64 a0_0, .slice A0_1 l0_1.length c0_1, .slice A0_2 l0_2.length c0_2, .slice A0_3 l0_3.length c0_3, .int .u32 a0_4, .int .u32 a0_5] 46 (0, 0)) (up_ BK319.out) hb)
       have n1_ := aM (blk_below (g := gb320) (o := .cells #[.int .i64 0, .slice none 0 0, .slice none 0 0, .slice none 0 0, .int .u32 0, .int .u32 0] 46 (0, 0)) (up_ BK320.out) hb)
       have n2_ := aM (below_step (by repeat (first | (with_reducible first | exact HB.out | apply blA | apply blN | apply blD | refine bS ?_ GE319.out | refine bS ?_ GE320.out) | exact HB.out)) hb)
       have n3_ := aM (hbox)
       have n4_ := aM ((by rw [hg]; exact (below_size (by repeat (first | (with_reducible first | exact HB.out | apply blA | apply blN | apply blD | refine bS ?_ GE319.out | refine bS ?_ GE320.out) | exact HB.out))) : w.heap.size ≤ gb330))
       have n5_ := aM ((by rw [hg]; exact (below_size (by repeat (first | (with_reducible first | exact HB.out | apply blA | apply blN | apply blD | refine bS ?_ GE319.out | refine bS ?_ GE320.out) | exact HB.out))) : w.heap.size ≤ gb330))
       have n6_ := aM ((by rw [hg]; exact Nat.ne_of_lt (blk_lt (g := gb319) (o := .cells #[.int .i64 a0_0, .slice A0_1 l0_1.length c0_1, .slice A0_2 l0_2.length c0_2, .slice A0_3 l0_3.length c0_3, .int .u32 a0_4, .int .u32 a0_5] 46 (0, 0)) (up_ BK319.out)) : gb319 ≠ gb330))
       have n7_ := aM ((by rw [hg]; exact Nat.ne_of_gt (blk_lt (g := gb319) (o := .cells #[.int .i64 a0_0, .slice A0_1 l0_1.length c0_1, .slice A0_2 l0_2.length c0_2, .slice A0_3 l0_3.length c0_3, .int .u32 a0_4, .int .u32 a0_5] 46 (0, 0)) (up_ BK319.out)) : gb330 ≠ gb319))
       have n8_ := aM ((by rw [hg]; exact Nat.ne_of_lt (blk_lt (g := gb320) (o := .cells #[.int .i64 0, .slice none 0 0, .slice none 0 0, .slice none 0 0, .int .u32 0, .int .u32 0] 46 (0, 0)) (up_ BK320.out)) : gb320 ≠ gb330))
       have n9_ := aM ((by rw [hg]; exact Nat.ne_of_gt (blk_lt (g := gb320) (o := .cells #[.int .i64 0, .slice none 0 0, .slice none 0 0, .slice none 0 0, .int .u32 0, .int .u32 0] 46 (0, 0)) (up_ BK320.out)) : gb330 ≠ gb320))
       clear BK319
       clear BK320
       clear HB
       have BK319 := n0_
       have BK320 := n1_
       have HB := n2_
       have BK330 := n3_
       have GW330 := n4_
       have GE330 := n5_
       have NB319_330 := n6_
       have NB330_319 := n7_
       have NB320_330 := n8_
       have NB330_320 := n9_
       clear n0_ n1_ n2_ n3_ n4_ n5_ n6_ n7_ n8_ n9_
       clear hb hbox hg
       refine hK.out _ _ ⟨(blk_cell BK319.out 0).trans rfl, (blk_cell BK319.out 1).trans rfl, (blk_cell BK319.out 2).trans rfl, (blk_cell BK319.out 3).trans rfl, (blk_cell BK319.out 4).trans rfl, (blk_cell BK319.out 5).trans rfl⟩ (fun hHeld => ?_)
       clear hK K
       refine norm_ (a' := ?_) ?_ ?_
       rotate_left
       · show Act.put _ (some 3) _ = _
         simp only [Act.put, sT, sZ, sS, i64_w, i32_w]
         rfl
       refine one_ (i := 6) (N := some 12) #[true, true, true, true, true, true, true, true, true, false, true, true, false, false, true, false] rfl rfl (one_of HT_.out (by kernel_rfl)) (by decide) (fun K hK => ?_)
       refine Kd.R_lit_step k83 _ 83 ?hg (N := 12) ?hd (xs := ([] : List (S83))) (inner := []) (ok := fun _ => True) (okp := fun _ => True) ?hr ?hp (fun _ hk => hk) trivial (Below.refl _ _) (Nat.le_refl _) (by simp) ?_; (case hd => rfl); (case hg => rfl); (case hr => first | (go_simp; done) | (go_simp; rfl)); (case hp => exact (Reps.none _ _))
       intro v322 w8 ho9 hb hg_ hnew_
       clear hg_ hnew_
       (first | rw [← Ny321.out] at ho9 | (simp only [Int.reduceToNat] at ho9; rw [← Ny321.out] at ho9))
       have n0_ := aM (Kd.R_lower ho9 (below_size (by repeat (first | (with_reducible first | exact HB.out | apply blA | apply blN | apply blD | refine bS ?_ GE319.out | refine bS ?_ GE320.out | refine bS ?_ GE330.out) | exact HB.out))))
       have n1_ := aM (blk_below (g := gb319) (o := .cells #[.int .i64 a0_0, .slice A0_1 l0_1.length c0_1, .slice A0_2 l0_2.length c0_2, .slice A0_3 l0_3.length c0_3, .int .u32 a0_4, .int .u32 a0_5] 46 (0, 0)) (up_ BK319.out) hb)
       have n2_ := aM (blk_below (g := gb320) (o := .cells #[.int .i64 0, .slice none 0 0, .slice none 0 0, .slice none 0 0, .int .u32 0, .int .u32 0] 46 (0, 0)) (up_ BK320.out) hb)
       have n3_ := aM (blk_below (g := gb330) (o := .cells #[.int .i64 0, .slice none 0 0, .slice none 0 0, .slice none 0 0, .int .u32 0, .int .u32 0] 46 (0, 0)) (up_ BK330.out) hb)
       have n4_ := aM (below_step (by repeat (first | (with_reducible first | exact HB.out | apply blA | apply blN | apply blD | refine bS ?_ GE319.out | refine bS ?_ GE320.out | refine bS ?_ GE330.out) | exact HB.out)) hb)
       clear BK319
       clear BK320
       clear BK330
       clear HB
       have HO323 := n0_
       have BK319 := n1_
       have BK320 := n2_
       have BK330 := n3_
       have HB := n4_
       clear n0_ n1_ n2_ n3_ n4_
       clear hb ho9
       refine hK.out _ _ ⟨(blk_cell BK319.out 0).trans rfl, (blk_cell BK319.out 1).trans rfl, (blk_cell BK319.out 2).trans rfl, (blk_cell BK319.out 3).trans rfl, (blk_cell BK319.out 4).trans rfl, (blk_cell BK319.out 5).trans rfl⟩ (fun hHeld => ?_)
       clear hK K
       refine norm_ (a' := ?_) ?_ ?_
       rotate_left
       · show Act.put _ (some 12) _ = _
         simp only [Act.put, sT, sZ, sS, i64_w, i32_w]
         rfl
       refine one_ (i := 9) (N := some 15) #[true, true, true, true, true, true, true, true, true, true, true, true, false, false, true, false] rfl rfl (one_of HT_.out (by kernel_rfl)) (by decide) (fun K hK => ?_)
       refine Kd.R_append_rows_step k83 (w0 := w) w.heap.size (by rfl) (.tmp 12) (.tmp 14) 42 83 (.agg #[(.bool false), (.int .u32 0), (.int .i64 0), (.int .i64 0), (.int .i64 0)]) 40 rfl Try.underlying42 info83 rfl (by decide) (by omega) v322 y321 l0_1 _ _ _ (fun _ => True) (fun _ => False) rfl rfl ?aO ?aR (fun _ _ h => h) (fun _ h => h.elim) ?aF ?aB ?aS ?aL ?_
       (case aR => repeat (first | exact (Kd.C_below HR0_1.out HB.out) | (with_reducible refine Kd.C_alloc ?_ _) | (with_reducible refine Kd.C_drewN ?_ _) | (with_reducible refine Kd.C_drew ?_)))
       (case aB => exact (by repeat (first | (with_reducible first | exact HB.out | apply blA | apply blN | apply blD | refine bS ?_ GE319.out | refine bS ?_ GE320.out | refine bS ?_ GE330.out) | exact HB.out)))
       (case aF => exact (fun _ _ => trivial))
       (case aO => exact (uk_ HO323.out))
       (case aS => exact (below_size (by repeat (first | (with_reducible first | exact HB.out | apply blA | apply blN | apply blD | refine bS ?_ GE319.out | refine bS ?_ GE320.out | refine bS ?_ GE330.out) | exact HB.out))))
       (case aL => have := LMc2.out; omega)
       intro v325 w10 ho hb hg hat
       rw [← Ny324.out] at ho
       have n0_ := aM (blk_grown (g := gb319) (o := .cells #[.int .i64 a0_0, .slice A0_1 l0_1.length c0_1, .slice A0_2 l0_2.length c0_2, .slice A0_3 l0_3.length c0_3, .int .u32 a0_4, .int .u32 a0_5] 46 (0, 0)) (up_ BK319.out) hg (Kd.R_ne HO323.out BK319.out (by decide)))
       have n1_ := aM (blk_grown (g := gb320) (o := .cells #[.int .i64 0, .slice none 0 0, .slice none 0 0, .slice none 0 0, .int .u32 0, .int .u32 0] 46 (0, 0)) (up_ BK320.out) hg (Kd.R_ne HO323.out BK320.out (by decide)))
       have n2_ := aM (blk_grown (g := gb330) (o := .cells #[.int .i64 0, .slice none 0 0, .slice none 0 0, .slice none 0 0, .int .u32 0, .int .u32 0] 46 (0, 0)) (up_ BK330.out) hg (Kd.R_ne HO323.out BK330.out (by decide)))
       have n3_ := aM (hb)
       have n4_ := aM (ho)
       clear BK319
       clear BK320
       clear BK330
       clear HB
       clear HO323
       have BK319 := n0_
       have BK320 := n1_
       have BK330 := n2_
       have HB := n3_
       have HO326 := n4_
       clear n0_ n1_ n2_ n3_ n4_
       clear ho hb hg hat
       refine hK.out _ _ ⟨(blk_cell BK319.out 0).trans rfl, (blk_cell BK319.out 1).trans rfl, (blk_cell BK319.out 2).trans rfl, (blk_cell BK319.out 3).trans rfl, (blk_cell BK319.out 4).trans rfl, (blk_cell BK319.out 5).trans rfl⟩ (fun hHeld => ?_)
       clear hK K
       refine norm_ (a' := ?_) ?_ ?_
       rotate_left
       · show Act.put _ (some 15) _ = _
         simp only [Act.put, sT, sZ, sS, i64_w, i32_w]
         rfl
       refine one_ (i := 12) (N := some 18) #[true, true, true, true, true, true, true, true, true, true, true, true, true, false, true, false] rfl rfl (one_of HT_.out (by kernel_rfl)) (by decide) (fun K hK => ?_)
       refine goes_ Try.func52 (by kernel_rfl) rfl #[.slice A0_3 l0_3.length c0_3] (by rfl) rfl rfl (by (try simp only [List.map_toArray, List.map_cons, List.map_nil]); first | done | rfl | (simp only [List.length_drop, List.length_take]; rfl)) ?_
       with_reducible refine (dragomanref11_CopyComms.calls k _ _ l0_3 t327 _ ?side1 ?side2 A3.out).mono ?_
       (case side1 => repeat (first | exact (Kd.C_below HR0_3.out HB.out) | (with_reducible refine Kd.C_alloc ?_ _) | (with_reducible refine Kd.C_drewN ?_ _) | (with_reducible refine Kd.C_drew ?_)))
       (case side2 => exact HC0_3.out)
       rintro e w11 ⟨v328, rfl, ho0, hb⟩
       refine ⟨_, rfl, ?_⟩
       have n0_ := aM (Kd.R_below (uk_ HO326.out) hb)
       have n1_ := aM (Kd.S_lower ho0 (below_size (by repeat (first | (with_reducible first | exact HB.out | apply blA | apply blN | apply blD | refine bS ?_ GE319.out | refine bS ?_ GE320.out | refine bS ?_ GE330.out) | exact HB.out))))
       have n2_ := aM (blk_below (g := gb319) (o := .cells #[.int .i64 a0_0, .slice A0_1 l0_1.length c0_1, .slice A0_2 l0_2.length c0_2, .slice A0_3 l0_3.length c0_3, .int .u32 a0_4, .int .u32 a0_5] 46 (0, 0)) (up_ BK319.out) hb)
       have n3_ := aM (blk_below (g := gb320) (o := .cells #[.int .i64 0, .slice none 0 0, .slice none 0 0, .slice none 0 0, .int .u32 0, .int .u32 0] 46 (0, 0)) (up_ BK320.out) hb)
       have n4_ := aM (blk_below (g := gb330) (o := .cells #[.int .i64 0, .slice none 0 0, .slice none 0 0, .slice none 0 0, .int .u32 0, .int .u32 0] 46 (0, 0)) (up_ BK330.out) hb)
       have n5_ := aM (below_step (by repeat (first | (with_reducible first | exact HB.out | apply blA | apply blN | apply blD | refine bS ?_ GE319.out | refine bS ?_ GE320.out | refine bS ?_ GE330.out) | exact HB.out)) hb)
       clear HO326
       clear BK319
       clear BK320
       clear BK330
       clear HB
       have HO326 := n0_
       have HO329 := n1_
       have BK319 := n2_
       have BK320 := n3_
       have BK330 := n4_
       have HB := n5_
       clear n0_ n1_ n2_ n3_ n4_ n5_
       (try clear hb)
       (try clear hb2)
       (try clear hk)
       (try clear hi)
       (try clear ho0)
       obtain ⟨Ao12, co12, eo12⟩ := Kd.S_slice HO329.out
       (first | subst eo12 | (injection eo12 with f1_ f2_ f3_; have f4_ := f1_.symm; have f5_ := f3_.symm; clear f1_ f2_ f3_; subst f4_; subst f5_))
       obtain ⟨Ao13, co13, eo13⟩ := Kd.R_slice HO326.out
       (first | subst eo13 | (injection eo13 with f1_ f2_ f3_; have f4_ := f1_.symm; have f5_ := f3_.symm; clear f1_ f2_ f3_; subst f4_; subst f5_))
       refine hK.out _ _ ⟨(blk_cell BK319.out 0).trans rfl, (blk_cell BK319.out 1).trans rfl, (blk_cell BK319.out 2).trans rfl, (blk_cell BK319.out 3).trans rfl, (blk_cell BK319.out 4).trans rfl, (blk_cell BK319.out 5).trans rfl⟩ (fun hHeld => ?_)
       clear hK K
       refine norm_ (a' := ?_) ?_ ?_
       rotate_left
       · show Act.put _ (some 18) _ = _
         simp only [Act.put, sT, sZ, sS, i64_w, i32_w]
         rfl
       refine pure_ (i := 13) (N := some 19) (v := ?_) (a' := ?_) (tf 15 1) rfl rfl (any_of HT_.out (by kernel_rfl)) (fun _ _ _ h => h) (Or.inl ⟨by rfl, ?_⟩) ?_ ?_
       rotate_left
       · intro w'
         go_simp
         with_reducible rfl
       rotate_left
       · simp only [Act.put, sT, sZ, sS, i64_w, i32_w]
         rfl
       exact norm_ (by simp only [putAll, Act.put, sT, sZ, sS]) (hCont (v322, .slice Ao13 y324.length co13, .slice Ao12 t327.length co12, gb330) _ ⟨hHeld, (uk_ HO326.out), (by (with_reducible repeat (first | apply Kd.S_alloc | apply Kd.S_drewN | apply Kd.S_drew)); exact HO329.out), (up_ BK319.out), (up_ BK320.out), (up_ BK330.out), GW330.out, GE330.out, NB319_330.out, NB330_319.out, NB320_330.out, NB330_320.out, (by repeat (first | (with_reducible first | exact HB.out | apply blA | apply blN | apply blD | refine bS ?_ GE319.out | refine bS ?_ GE320.out | refine bS ?_ GE330.out) | exact HB.out))⟩)
   rintro ⟨v322, v325, v328, gb330⟩ w14 ⟨hS_, h0_, h1_, h2_, h3_, h4_, h5_, h6_, h7_, h8_, h9_, h10_, h11_⟩
   have n0_ : Aside0 (Kd.R k83 83 w14 w.heap.size (fun _ => True) v325 y324) := ⟨h0_⟩
   have n1_ : Aside0 (Kd.S k64 64 w14 w.heap.size (fun _ => True) v328 t327) := ⟨h1_⟩
   have n2_ : Aside0 (w14.heap[gb319]? = some (.cells #[.int .i64 a0_0, .slice A0_1 l0_1.length c0_1, .slice A0_2 l0_2.length c0_2, .slice A0_3 l0_3.length c0_3, .int .u32 a0_4, .int .u32 a0_5] 46 (0, 0))) := ⟨h2_⟩
   have n3_ : Aside0 (w14.heap[gb320]? = some (.cells #[.int .i64 0, .slice none 0 0, .slice none 0 0, .slice none 0 0, .int .u32 0, .int .u32 0] 46 (0, 0))) := ⟨h3_⟩
   have n4_ : Aside0 (w14.heap[gb330]? = some (.cells #[.int .i64 0, .slice none 0 0, .slice none 0 0, .slice none 0 0, .int .u32 0, .int .u32 0] 46 (0, 0))) := ⟨h4_⟩
   have n5_ : Aside0 (w.heap.size ≤ gb330) := ⟨h5_⟩
   have n6_ : Aside0 (w.heap.size ≤ gb330) := ⟨h6_⟩
   have n7_ : Aside0 (gb319 ≠ gb330) := ⟨h7_⟩
   have n8_ : Aside0 (gb330 ≠ gb319) := ⟨h8_⟩
   have n9_ : Aside0 (gb320 ≠ gb330) := ⟨h9_⟩
   have n10_ : Aside0 (gb330 ≠ gb320) := ⟨h10_⟩
   have n11_ : Aside0 (Below w.heap.size w w14) := ⟨h11_⟩
   clear BK319
   clear BK320
   clear HB
   clear h0_ h1_ h2_ h3_ h4_ h5_ h6_ h7_ h8_ h9_ h10_ h11_
   have HO326 := n0_
   have HO329 := n1_
   have BK319 := n2_
   have BK320 := n3_
   have BK330 := n4_
   have GW330 := n5_
   have GE330 := n6_
   have NB319_330 := n7_
   have NB330_319 := n8_
   have NB320_330 := n9_
   have NB330_320 := n10_
   have HB := n11_
   clear n0_ n1_ n2_ n3_ n4_ n5_ n6_ n7_ n8_ n9_ n10_ n11_
   have hHeld : w14.cell? ⟨gb319, 0, none⟩ = some (.int .i64 a0_0) ∧ w14.cell? ⟨gb319, 1, none⟩ = some (.slice A0_1 l0_1.length c0_1) ∧ w14.cell? ⟨gb319, 2, none⟩ = some (.slice A0_2 l0_2.length c0_2) ∧ w14.cell? ⟨gb319, 3, none⟩ = some (.slice A0_3 l0_3.length c0_3) ∧ w14.cell? ⟨gb319, 4, none⟩ = some (.int .u32 a0_4) ∧ w14.cell? ⟨gb319, 5, none⟩ = some (.int .u32 a0_5) := hS_
   obtain ⟨Ao15, co15, eo15⟩ := Kd.S_slice HO329.out
   (first | subst eo15 | (injection eo15 with f1_ f2_ f3_; have f4_ := f1_.symm; have f5_ := f3_.symm; clear f1_ f2_ f3_; subst f4_; subst f5_))
   obtain ⟨Ao16, co16, eo16⟩ := Kd.R_slice HO326.out
   (first | subst eo16 | (injection eo16 with f1_ f2_ f3_; have f4_ := f1_.symm; have f5_ := f3_.symm; clear f1_ f2_ f3_; subst f4_; subst f5_))
   refine norm_ (a' := ?_) ?_ ?_
   rotate_left
   · simp only [putAll, Act.put, sT, sZ, sS]
     rfl
   refine one_ (i := 15) (N := none) (tf 16 0) rfl rfl (one_of HT_.out (by kernel_rfl)) (by decide) (fun K hK => ?_)
   have hs17 : w14.cell? ⟨gb330, 0, none⟩ = some (.int .i64 0) := (blk_cell BK330.out 0).trans rfl
   have hfs17 := bF BK330.out 0
   have hns17_0 := NB319_330.out
   have hns17_1 := NB320_330.out
   have hms17_0 := NB330_319.out
   have hms17_1 := NB330_320.out
   have hs18 : w14.cell? ⟨gb330, 1, none⟩ = some (.slice none 0 0) := (blk_cell BK330.out 1).trans rfl
   have hfs18 := bF BK330.out 1
   have hns18_0 := NB319_330.out
   have hns18_1 := NB320_330.out
   have hms18_0 := NB330_319.out
   have hms18_1 := NB330_320.out
   have hs19 : w14.cell? ⟨gb330, 2, none⟩ = some (.slice none 0 0) := (blk_cell BK330.out 2).trans rfl
   have hfs19 := bF BK330.out 2
   have hns19_0 := NB319_330.out
   have hns19_1 := NB320_330.out
   have hms19_0 := NB330_319.out
   have hms19_1 := NB330_320.out
   have hs20 : w14.cell? ⟨gb330, 3, none⟩ = some (.slice none 0 0) := (blk_cell BK330.out 3).trans rfl
   have hfs20 := bF BK330.out 3
   have hns20_0 := NB319_330.out
   have hns20_1 := NB320_330.out
   have hms20_0 := NB330_319.out
   have hms20_1 := NB330_320.out
   have hs21 : w14.cell? ⟨gb330, 4, none⟩ = some (.int .u32 0) := (blk_cell BK330.out 4).trans rfl
   have hfs21 := bF BK330.out 4
   have hns21_0 := NB319_330.out
   have hns21_1 := NB320_330.out
   have hms21_0 := NB330_319.out
   have hms21_1 := NB330_320.out
   have hs22 : w14.cell? ⟨gb330, 5, none⟩ = some (.int .u32 0) := (blk_cell BK330.out 5).trans rfl
   have hfs22 := bF BK330.out 5
   have hns22_0 := NB319_330.out
   have hns22_1 := NB320_330.out
   have hms22_0 := NB330_319.out
   have hms22_1 := NB330_320.out
   refine skip_ (w1 := ?_) (by rfl) rfl ?_ ?_
   rotate_left
   · go_simp
     rfl
   refine hK.out _ _ ⟨((cell_far (p := ⟨gb330, _, none⟩) NB319_330.out _).trans (((cell_far (p := ⟨gb330, _, none⟩) NB319_330.out _).trans (((cell_far (p := ⟨gb330, _, none⟩) NB319_330.out _).trans (((cell_far (p := ⟨gb330, _, none⟩) NB319_330.out _).trans (((cell_far (p := ⟨gb330, _, none⟩) NB319_330.out _).trans (((cell_far (p := ⟨gb330, _, none⟩) NB319_330.out _).trans (hHeld.1)))))))))))), ((cell_far (p := ⟨gb330, _, none⟩) NB319_330.out _).trans (((cell_far (p := ⟨gb330, _, none⟩) NB319_330.out _).trans (((cell_far (p := ⟨gb330, _, none⟩) NB319_330.out _).trans (((cell_far (p := ⟨gb330, _, none⟩) NB319_330.out _).trans (((cell_far (p := ⟨gb330, _, none⟩) NB319_330.out _).trans (((cell_far (p := ⟨gb330, _, none⟩) NB319_330.out _).trans (hHeld.2.1)))))))))))), ((cell_far (p := ⟨gb330, _, none⟩) NB319_330.out _).trans (((cell_far (p := ⟨gb330, _, none⟩) NB319_330.out _).trans (((cell_far (p := ⟨gb330, _, none⟩) NB319_330.out _).trans (((cell_far (p := ⟨gb330, _, none⟩) NB319_330.out _).trans (((cell_far (p := ⟨gb330, _, none⟩) NB319_330.out _).trans (((cell_far (p := ⟨gb330, _, none⟩) NB319_330.out _).trans (hHeld.2.2.1)))))))))))), ((cell_far (p := ⟨gb330, _, none⟩) NB319_330.out _).trans (((cell_far (p := ⟨gb330, _, none⟩) NB319_330.out _).trans (((cell_far (p := ⟨gb330, _, none⟩) NB319_330.out _).trans (((cell_far (p := ⟨gb330, _, none⟩) NB319_330.out _).trans (((cell_far (p := ⟨gb330, _, none⟩) NB319_330.out _).trans (((cell_far (p := ⟨gb330, _, none⟩) NB319_330.out _).trans (hHeld.2.2.2.1)))))))))))), ((cell_far (p := ⟨gb330, _, none⟩) NB319_330.out _).trans (((cell_far (p := ⟨gb330, _, none⟩) NB319_330.out _).trans (((cell_far (p := ⟨gb330, _, none⟩) NB319_330.out _).trans (((cell_far (p := ⟨gb330, _, none⟩) NB319_330.out _).trans (((cell_far (p := ⟨gb330, _, none⟩) NB319_330.out _).trans (((cell_far (p := ⟨gb330, _, none⟩) NB319_330.out _).trans (hHeld.2.2.2.2.1)))))))))))), ((cell_far (p := ⟨gb330, _, none⟩) NB319_330.out _).trans (((cell_far (p := ⟨gb330, _, none⟩) NB319_330.out _).trans (((cell_far (p := ⟨gb330, _, none⟩) NB319_330.out _).trans (((cell_far (p := ⟨gb330, _, none⟩) NB319_330.out _).trans (((cell_far (p := ⟨gb330, _, none⟩) NB319_330.out _).trans (((cell_far (p := ⟨gb330, _, none⟩) NB319_330.out _).trans (hHeld.2.2.2.2.2))))))))))))⟩ (fun hHeld => ?_)
   clear hK K
   refine done_ (done_of HT_.out (by kernel_rfl)) ?_
   have hnb23 := NB319_320.out
   have hnc23 := NB320_319.out
   have hnb24 := NB319_330.out
   have hnc24 := NB330_319.out
   have hcz25_0 : w14.cell? ⟨gb319, 0, none⟩ = some (.int .i64 a0_0) := (blk_cell BK319.out 0).trans rfl
   have hcz25_1 : w14.cell? ⟨gb319, 1, none⟩ = some (.slice A0_1 l0_1.length c0_1) := (blk_cell BK319.out 1).trans rfl
   have hcz25_2 : w14.cell? ⟨gb319, 2, none⟩ = some (.slice A0_2 l0_2.length c0_2) := (blk_cell BK319.out 2).trans rfl
   have hcz25_3 : w14.cell? ⟨gb319, 3, none⟩ = some (.slice A0_3 l0_3.length c0_3) := (blk_cell BK319.out 3).trans rfl
   have hcz25_4 : w14.cell? ⟨gb319, 4, none⟩ = some (.int .u32 a0_4) := (blk_cell BK319.out 4).trans rfl
   have hcz25_5 : w14.cell? ⟨gb319, 5, none⟩ = some (.int .u32 a0_5) := (blk_cell BK319.out 5).trans rfl
   have hfz25_0 := bF BK319.out 0
   have hfz25_1 := bF BK319.out 1
   have hfz25_2 := bF BK319.out 2
   have hfz25_3 := bF BK319.out 3
   have hfz25_4 := bF BK319.out 4
   have hfz25_5 := bF BK319.out 5
   try go_wp2
   go_loopg [23] k (fun kq v23 w' => ∃ (x23_1 : Int) (x331002_1 : List (S61)) (u331002 : Value), v23 = .int .i64 x23_1 ∧ Aside0 (dragomanref11_Copy.l0 kq l0_2 (l0_2.length : Int) x23_1 a0_0 y324 x331002_1 t327 a0_4 a0_5 = some (r1, r2, r3, r4, r5, r6)) ∧ Aside0 (kq ≤ k) ∧ Aside0 (Kd.R k83 83 w' w.heap.size (fun _ => True) (.slice Ao16 y324.length co16) y324) ∧ Aside0 (Kd.R k61 61 w' w.heap.size (fun _ => True) u331002 x331002_1) ∧ Aside0 (Kd.S k64 64 w' w.heap.size (fun _ => True) (.slice Ao15 t327.length co15) t327) ∧ Aside0 (w'.heap[gb319]? = some (.cells #[.int .i64 a0_0, (.slice A0_1 l0_1.length c0_1), (.slice A0_2 l0_2.length c0_2), (.slice A0_3 l0_3.length c0_3), .int .u32 a0_4, .int .u32 a0_5] 46 (0, 0))) ∧ Aside0 (w'.heap[gb320]? = some (.cells #[.int .i64 0, (.slice none 0 0), (.slice none 0 0), (.slice none 0 0), .int .u32 0, .int .u32 0] 46 (0, 0))) ∧ Aside0 (w'.heap[gb330]? = some (.cells #[.int .i64 a0_0, (.slice Ao16 y324.length co16), u331002, (.slice Ao15 t327.length co15), .int .u32 a0_4, .int .u32 a0_5] 46 (0, 0))) ∧ Aside0 (Below w.heap.size w w'))
   case atStart => exact ⟨(0), (([] : List (S61))), (.slice none 0 0), (by first | rfl | (simp; done) | (simp [*]; done)), H', ⟨Nat.le_refl _⟩, ⟨by (with_reducible repeat (first | apply kA | apply kN | apply kD)); exact Kd.R_mono (Kd.R_far (p := ⟨gb330, 5, none⟩) (Kd.R_far (p := ⟨gb330, 4, none⟩) (Kd.R_far (p := ⟨gb330, 3, none⟩) (Kd.R_far (p := ⟨gb330, 2, none⟩) (Kd.R_far (p := ⟨gb330, 1, none⟩) (Kd.R_far (p := ⟨gb330, 0, none⟩) (Kd.R_types HO326.out BK330.out (by decide)) (fun _ hk => hk.2) (.int .i64 a0_0)) (fun _ hk => hk.2) (.slice Ao16 y324.length co16)) (fun _ hk => hk.2) (.slice none 0 0)) (fun _ hk => hk.2) (.slice Ao15 t327.length co15)) (fun _ hk => hk.2) (.int .u32 a0_4)) (fun _ hk => hk.2) (.int .u32 a0_5)) (fun _ hk => trivial)⟩, ⟨by first | exact Kd.R_nil _ _ _ _ _ | exact Kd.N_nil _ _ _ _ _ | exact Kd.V_nil _ _ _ _ _ | exact Kd.Q_nil _ _ _ _ _ | exact Kd.S_nil _ _ _ _ _⟩, ⟨by (with_reducible repeat (first | apply Kd.S_alloc | apply Kd.S_drewN | apply Kd.S_drew)); exact Kd.S_mono (Kd.S_far (p := ⟨gb330, 5, none⟩) (Kd.S_far (p := ⟨gb330, 4, none⟩) (Kd.S_far (p := ⟨gb330, 3, none⟩) (Kd.S_far (p := ⟨gb330, 2, none⟩) (Kd.S_far (p := ⟨gb330, 1, none⟩) (Kd.S_far (p := ⟨gb330, 0, none⟩) (Kd.S_types HO329.out BK330.out (by decide)) (fun _ hk => hk.2) (.int .i64 a0_0)) (fun _ hk => hk.2) (.slice Ao16 y324.length co16)) (fun _ hk => hk.2) (.slice none 0 0)) (fun _ hk => hk.2) (.slice Ao15 t327.length co15)) (fun _ hk => hk.2) (.int .u32 a0_4)) (fun _ hk => hk.2) (.int .u32 a0_5)) (fun _ hk => trivial)⟩, ⟨by (with_reducible repeat (first | apply bkN | apply bkD | apply bkA)); refine blk_far ?_ NB319_330.out _; (with_reducible repeat (first | apply bkN | apply bkD | apply bkA)); refine blk_far ?_ NB319_330.out _; (with_reducible repeat (first | apply bkN | apply bkD | apply bkA)); refine blk_far ?_ NB319_330.out _; (with_reducible repeat (first | apply bkN | apply bkD | apply bkA)); refine blk_far ?_ NB319_330.out _; (with_reducible repeat (first | apply bkN | apply bkD | apply bkA)); refine blk_far ?_ NB319_330.out _; (with_reducible repeat (first | apply bkN | apply bkD | apply bkA)); refine blk_far ?_ NB319_330.out _; (with_reducible repeat (first | apply bkN | apply bkD | apply bkA)); exact BK319.out⟩, ⟨by (with_reducible repeat (first | apply bkN | apply bkD | apply bkA)); refine blk_far ?_ NB320_330.out _; (with_reducible repeat (first | apply bkN | apply bkD | apply bkA)); refine blk_far ?_ NB320_330.out _; (with_reducible repeat (first | apply bkN | apply bkD | apply bkA)); refine blk_far ?_ NB320_330.out _; (with_reducible repeat (first | apply bkN | apply bkD | apply bkA)); refine blk_far ?_ NB320_330.out _; (with_reducible repeat (first | apply bkN | apply bkD | apply bkA)); refine blk_far ?_ NB320_330.out _; (with_reducible repeat (first | apply bkN | apply bkD | apply bkA)); refine blk_far ?_ NB320_330.out _; (with_reducible repeat (first | apply bkN | apply bkD | apply bkA)); exact BK320.out⟩, ⟨by (with_reducible repeat (first | apply bkN | apply bkD | apply bkA)); refine blk_put (cs := #[.int .i64 a0_0, .slice Ao16 y324.length co16, .slice none 0 0, .slice Ao15 t327.length co15, .int .u32 a0_4, .int .u32 0]) ?_ 5 _ rfl; (with_reducible repeat (first | apply bkN | apply bkD | apply bkA)); refine blk_put (cs := #[.int .i64 a0_0, .slice Ao16 y324.length co16, .slice none 0 0, .slice Ao15 t327.length co15, .int .u32 0, .int .u32 0]) ?_ 4 _ rfl; (with_reducible repeat (first | apply bkN | apply bkD | apply bkA)); refine blk_put (cs := #[.int .i64 a0_0, .slice Ao16 y324.length co16, .slice none 0 0, .slice none 0 0, .int .u32 0, .int .u32 0]) ?_ 3 _ rfl; (with_reducible repeat (first | apply bkN | apply bkD | apply bkA)); refine blk_put (cs := #[.int .i64 a0_0, .slice Ao16 y324.length co16, .slice none 0 0, .slice none 0 0, .int .u32 0, .int .u32 0]) ?_ 2 _ rfl; (with_reducible repeat (first | apply bkN | apply bkD | apply bkA)); refine blk_put (cs := #[.int .i64 a0_0, .slice none 0 0, .slice none 0 0, .slice none 0 0, .int .u32 0, .int .u32 0]) ?_ 1 _ rfl; (with_reducible repeat (first | apply bkN | apply bkD | apply bkA)); refine blk_put (cs := #[.int .i64 0, .slice none 0 0, .slice none 0 0, .slice none 0 0, .int .u32 0, .int .u32 0]) ?_ 0 _ rfl; (with_reducible repeat (first | apply bkN | apply bkD | apply bkA)); exact BK330.out⟩, ⟨by repeat (first | (with_reducible first | exact HB.out | apply blA | apply blN | apply blD | refine bS ?_ GE319.out | refine bS ?_ GE320.out | refine bS ?_ GE330.out) | exact HB.out)⟩⟩
   case round =>
    clear H'
    obtain ⟨x23_1, x331002_1, u331002, rfl, HA, HK1, HO_331001, HO_331002, HO_331003, BK319, BK320, BK330, HB⟩ := hrel
    cases gk with
    | zero => exact absurd HA.out (by simp [dragomanref11_Copy.l0])
    | succ k1 =>
     have H := HA.out
     clear HA
     simp only [dragomanref11_Copy.l0] at H
     by_cases c26 : x23_1 < (l0_2.length : Int)
     · rw [if_pos c26] at H
       have c26b0 : decide (x23_1 < (l0_2.length : Int)) = true := decide_eq_true c26
       clear c26
       by_cases c27 : 0 ≤ x23_1
       · rw [if_pos c27] at H
         have c27b0 : decide (0 ≤ x23_1) = true := decide_eq_true c27
         clear c27
         by_cases c28 : x23_1 < (l0_2.length : Int)
         · rw [if_pos c28] at H
           have c28b0 : decide (x23_1 < (l0_2.length : Int)) = true := decide_eq_true c28
           clear c28
           replace H := Option.bind_eq_some_iff.mp H
           obtain ⟨⟨t333, t334, t337⟩, A290, H⟩ := H
           replace H : (if x331002_1.length < 2199023255552 then (dragomanref11_Copy.l0 k1 l0_2 (l0_2.length : Int) (wrap64 (x23_1 + 1)) a0_0 y324 (x331002_1 ++ [(⟨(rd_T61 l0_2 x23_1).f0, (⟨t333, t334, t337⟩ : S25)⟩ : S61)]) t327 a0_4 a0_5) else (none)) = some (r1, r2, r3, r4, r5, r6) := H
           have A29 := aM A290
           clear A290
           by_cases c30 : x331002_1.length < 2199023255552
           · rw [if_pos c30] at H
             have LMc30 := aM c30
             clear c30
             obtain ⟨y340, hy340⟩ : ∃ y_ : List (S61), y_ = (x331002_1 ++ [(⟨(rd_T61 l0_2 x23_1).f0, (⟨t333, t334, t337⟩ : S25)⟩ : S61)]) := ⟨_, rfl⟩
             replace H : (dragomanref11_Copy.l0 k1 l0_2 (l0_2.length : Int) (wrap64 (x23_1 + 1)) a0_0 y324 y340 t327 a0_4 a0_5) = some (r1, r2, r3, r4, r5, r6) := by first | (rw [hy340]; with_reducible exact H) | (have H2_ := (Option.bind_some _ _).symm.trans H; rw [hy340]; with_reducible exact H2_) | (have H2_ := (Option.bind_some _ _).symm.trans H; with_reducible exact H2_) | with_reducible exact H | (rw [hy340]; exact H) | exact H
             have Ny340 := aM hy340
             clear hy340
             have H' := aM H
             clear H
             have p331 : 0 ≤ (x23_1 : Int) := of_decide_eq_true (by first | (with_reducible assumption) | assumption)
             have q331 : x23_1 < (l0_2.length : Int) := of_decide_eq_true (by first | (with_reducible assumption) | assumption)
             obtain ⟨ad331, A331_2, c331_2, A331_3, c331_3, e331, hx331_0, hx331_1, hx331_2, hx331_3, hl331_2, hi331_2, hl331_3, hi331_3⟩ := at_T61 HR0_2.out x23_1 p331 q331
             cases e331
             replace hx331_0 := (HB.out.cell (World.block_lt_of_cell? w _ hx331_0)).trans hx331_0
             replace hx331_1 := (HB.out.cell (World.block_lt_of_cell? w _ hx331_1)).trans hx331_1
             replace hx331_2 := (HB.out.cell (World.block_lt_of_cell? w _ hx331_2)).trans hx331_2
             replace hx331_3 := (HB.out.cell (World.block_lt_of_cell? w _ hx331_3)).trans hx331_3
             have HR331_2 := aM hi331_2
             have HC331_2 := aM hl331_2
             clear hi331_2 hl331_2
             have HR331_3 := aM hi331_3
             have HC331_3 := aM hl331_3
             clear hi331_3 hl331_3
             replace p331 := eq_true p331
             replace q331 := eq_true q331
             try go_wp2_with (first | ((with_reducible refine gate_dst (N := 5) rfl ?_); refine box_event ?hg (N := 5) ?hd (cs := #[.bool false, .int .i64 0, .slice none 0 0, .slice none 0 0]) (t := 61) ?hr ?_; (case hd => rfl); (case hg => rfl); (case hr => first | (go_simp; done) | (go_simp; rfl)); intro gb332 hg w31 hbox hb; have n0_ := aM (Kd.R_below (uk_ HO_331001.out) hb); have n1_ := aM (Kd.R_below (Kd.R_elderB (uk_ HO_331002.out) gb332 (Nat.le_of_eq hg.symm)) hb); have n2_ := aM (Kd.S_below (by (with_reducible repeat (first | apply Kd.S_alloc | apply Kd.S_drewN | apply Kd.S_drew)); exact HO_331003.out) hb); have n3_ := aM (blk_below (g := gb319) (o := .cells #[.int .i64 a0_0, .slice A0_1 l0_1.length c0_1, .slice (some ad331) l0_2.length c0_2, .slice A0_3 l0_3.length c0_3, .int .u32 a0_4, .int .u32 a0_5] 46 (0, 0)) (up_ BK319.out) hb); have n4_ := aM (blk_below (g := gb320) (o := .cells #[.int .i64 0, .slice none 0 0, .slice none 0 0, .slice none 0 0, .int .u32 0, .int .u32 0] 46 (0, 0)) (up_ BK320.out) hb); have n5_ := aM (blk_below (g := gb330) (o := .cells #[.int .i64 a0_0, .slice Ao16 y324.length co16, u331002, .slice Ao15 t327.length co15, .int .u32 a0_4, .int .u32 a0_5] 46 (0, 0)) (up_ BK330.out) hb); have n6_ := aM (below_step (by repeat (first | (with_reducible first | exact HB.out | apply blA | apply blN | apply blD | refine bS ?_ GE319.out | refine bS ?_ GE320.out | refine bS ?_ GE330.out) | exact HB.out)) hb); have n7_ := aM (hbox); have n8_ := aM ((by rw [hg]; exact (below_size (by repeat (first | (with_reducible first | exact HB.out | apply blA | apply blN | apply blD | refine bS ?_ GE319.out | refine bS ?_ GE320.out | refine bS ?_ GE330.out) | exact HB.out))) : w.heap.size ≤ gb332)); have n9_ := aM ((by rw [hg]; exact (below_size (by repeat (first | (with_reducible first | exact HB.out | apply blA | apply blN | apply blD | refine bS ?_ GE319.out | refine bS ?_ GE320.out | refine bS ?_ GE330.out) | exact HB.out))) : w.heap.size ≤ gb332)); have n10_ := aM ((by rw [hg]; exact Nat.ne_of_lt (blk_lt (g := gb319) (o := .cells #[.int .i64 a0_0, .slice A0_1 l0_1.length c0_1, .slice (some ad331) l0_2.length c0_2, .slice A0_3 l0_3.length c0_3, .int .u32 a0_4, .int .u32 a0_5] 46 (0, 0)) (up_ BK319.out)) : gb319 ≠ gb332)); have n11_ := aM ((by rw [hg]; exact Nat.ne_of_gt (blk_lt (g := gb319) (o := .cells #[.int .i64 a0_0, .slice A0_1 l0_1.length c0_1, .slice (some ad331) l0_2.length c0_2, .slice A0_3 l0_3.length c0_3, .int .u32 a0_4, .int .u32 a0_5] 46 (0, 0)) (up_ BK319.out)) : gb332 ≠ gb319)); have n12_ := aM ((by rw [hg]; exact Nat.ne_of_lt (blk_lt (g := gb320) (o := .cells #[.int .i64 0, .slice none 0 0, .slice none 0 0, .slice none 0 0, .int .u32 0, .int .u32 0] 46 (0, 0)) (up_ BK320.out)) : gb320 ≠ gb332)); have n13_ := aM ((by rw [hg]; exact Nat.ne_of_gt (blk_lt (g := gb320) (o := .cells #[.int .i64 0, .slice none 0 0, .slice none 0 0, .slice none 0 0, .int .u32 0, .int .u32 0] 46 (0, 0)) (up_ BK320.out)) : gb332 ≠ gb320)); have n14_ := aM ((by rw [hg]; exact Nat.ne_of_lt (blk_lt (g := gb330) (o := .cells #[.int .i64 a0_0, .slice Ao16 y324.length co16, u331002, .slice Ao15 t327.length co15, .int .u32 a0_4, .int .u32 a0_5] 46 (0, 0)) (up_ BK330.out)) : gb330 ≠ gb332)); have n15_ := aM ((by rw [hg]; exact Nat.ne_of_gt (blk_lt (g := gb330) (o := .cells #[.int .i64 a0_0, .slice Ao16 y324.length co16, u331002, .slice Ao15 t327.length co15, .int .u32 a0_4, .int .u32 a0_5] 46 (0, 0)) (up_ BK330.out)) : gb332 ≠ gb330)); clear HO_331001; clear HO_331002; clear HO_331003; clear BK319; clear BK320; clear BK330; clear HB; have HO_331001 := n0_; have HO_331002 := n1_; have HO_331003 := n2_; have BK319 := n3_; have BK320 := n4_; have BK330 := n5_; have HB := n6_; have BK332 := n7_; have GW332 := n8_; have GE332 := n9_; have NB319_332 := n10_; have NB332_319 := n11_; have NB320_332 := n12_; have NB332_320 := n13_; have NB330_332 := n14_; have NB332_330 := n15_; clear n0_ n1_ n2_ n3_ n4_ n5_ n6_ n7_ n8_ n9_ n10_ n11_ n12_ n13_ n14_ n15_; clear hb hbox hg; have hnb32 := NB332_319.out; have hnc32 := NB319_332.out; have hnb33 := NB332_320.out; have hnc33 := NB320_332.out; have hnb34 := NB332_330.out; have hnc34 := NB330_332.out; have hcz35_0 : w31.cell? ⟨gb332, 0, none⟩ = some (.bool false) := (blk_cell BK332.out 0).trans rfl; have hcz35_1 : w31.cell? ⟨gb332, 1, none⟩ = some (.int .i64 0) := (blk_cell BK332.out 1).trans rfl; have hcz35_2 : w31.cell? ⟨gb332, 2, none⟩ = some (.slice none 0 0) := (blk_cell BK332.out 2).trans rfl; have hcz35_3 : w31.cell? ⟨gb332, 3, none⟩ = some (.slice none 0 0) := (blk_cell BK332.out 3).trans rfl; have hfz35_0 := bF BK332.out 0; have hfz35_1 := bF BK332.out 1; have hfz35_2 := bF BK332.out 2; have hfz35_3 := bF BK332.out 3))
             have n0_ : Aside0 (Kd.R k83 83 ((((w31.setCell ⟨gb332, 0, none⟩ (.bool ((rd_T61 l0_2 x23_1).f0))).setCell ⟨gb332, 1, none⟩ (.int .i64 ((rd_T61 l0_2 x23_1).f1.f0))).setCell ⟨gb332, 2, none⟩ (.slice A331_2 ((rd_T61 l0_2 x23_1).f1.f1).length c331_2)).setCell ⟨gb332, 3, none⟩ (.slice A331_3 ((rd_T61 l0_2 x23_1).f1.f2).length c331_3)) w.heap.size (fun _ => True) (.slice Ao16 y324.length co16) y324) := ⟨by (with_reducible repeat (first | apply kA | apply kN | apply kD)); exact Kd.R_mono (Kd.R_far (p := ⟨gb332, 3, none⟩) (Kd.R_far (p := ⟨gb332, 2, none⟩) (Kd.R_far (p := ⟨gb332, 1, none⟩) (Kd.R_far (p := ⟨gb332, 0, none⟩) (Kd.R_types HO_331001.out BK332.out (by decide)) (fun _ hk => hk.2) (.bool ((rd_T61 l0_2 x23_1).f0))) (fun _ hk => hk.2) (.int .i64 ((rd_T61 l0_2 x23_1).f1.f0))) (fun _ hk => hk.2) (.slice A331_2 ((rd_T61 l0_2 x23_1).f1.f1).length c331_2)) (fun _ hk => hk.2) (.slice A331_3 ((rd_T61 l0_2 x23_1).f1.f2).length c331_3)) (fun _ hk => trivial)⟩
             have n1_ : Aside0 (Kd.R k61 61 ((((w31.setCell ⟨gb332, 0, none⟩ (.bool ((rd_T61 l0_2 x23_1).f0))).setCell ⟨gb332, 1, none⟩ (.int .i64 ((rd_T61 l0_2 x23_1).f1.f0))).setCell ⟨gb332, 2, none⟩ (.slice A331_2 ((rd_T61 l0_2 x23_1).f1.f1).length c331_2)).setCell ⟨gb332, 3, none⟩ (.slice A331_3 ((rd_T61 l0_2 x23_1).f1.f2).length c331_3)) w.heap.size (fun k_ => k_ ≠ gb332) u331002 x331002_1) := ⟨by (with_reducible repeat (first | apply kA | apply kN | apply kD)); exact Kd.R_mono (Kd.R_far (p := ⟨gb332, 3, none⟩) (Kd.R_far (p := ⟨gb332, 2, none⟩) (Kd.R_far (p := ⟨gb332, 1, none⟩) (Kd.R_far (p := ⟨gb332, 0, none⟩) (Kd.R_mono HO_331002.out (fun k_ hk => (⟨hk, hk.2⟩ : _ ∧ k_ ≠ gb332))) (fun _ hk => hk.2) (.bool ((rd_T61 l0_2 x23_1).f0))) (fun _ hk => hk.2) (.int .i64 ((rd_T61 l0_2 x23_1).f1.f0))) (fun _ hk => hk.2) (.slice A331_2 ((rd_T61 l0_2 x23_1).f1.f1).length c331_2)) (fun _ hk => hk.2) (.slice A331_3 ((rd_T61 l0_2 x23_1).f1.f2).length c331_3)) (fun _ hk => hk.1.2)⟩
             have n2_ : Aside0 (Kd.S k64 64 ((((w31.setCell ⟨gb332, 0, none⟩ (.bool ((rd_T61 l0_2 x23_1).f0))).setCell ⟨gb332, 1, none⟩ (.int .i64 ((rd_T61 l0_2 x23_1).f1.f0))).setCell ⟨gb332, 2, none⟩ (.slice A331_2 ((rd_T61 l0_2 x23_1).f1.f1).length c331_2)).setCell ⟨gb332, 3, none⟩ (.slice A331_3 ((rd_T61 l0_2 x23_1).f1.f2).length c331_3)) w.heap.size (fun _ => True) (.slice Ao15 t327.length co15) t327) := ⟨by (with_reducible repeat (first | apply Kd.S_alloc | apply Kd.S_drewN | apply Kd.S_drew)); exact Kd.S_mono (Kd.S_far (p := ⟨gb332, 3, none⟩) (Kd.S_far (p := ⟨gb332, 2, none⟩) (Kd.S_far (p := ⟨gb332, 1, none⟩) (Kd.S_far (p := ⟨gb332, 0, none⟩) (Kd.S_types HO_331003.out BK332.out (by decide)) (fun _ hk => hk.2) (.bool ((rd_T61 l0_2 x23_1).f0))) (fun _ hk => hk.2) (.int .i64 ((rd_T61 l0_2 x23_1).f1.f0))) (fun _ hk => hk.2) (.slice A331_2 ((rd_T61 l0_2 x23_1).f1.f1).length c331_2)) (fun _ hk => hk.2) (.slice A331_3 ((rd_T61 l0_2 x23_1).f1.f2).length c331_3)) (fun _ hk => trivial)⟩
             have n3_ : Aside0 (((((w31.setCell ⟨gb332, 0, none⟩ (.bool ((rd_T61 l0_2 x23_1).f0))).setCell ⟨gb332, 1, none⟩ (.int .i64 ((rd_T61 l0_2 x23_1).f1.f0))).setCell ⟨gb332, 2, none⟩ (.slice A331_2 ((rd_T61 l0_2 x23_1).f1.f1).length c331_2)).setCell ⟨gb332, 3, none⟩ (.slice A331_3 ((rd_T61 l0_2 x23_1).f1.f2).length c331_3)).heap[gb319]? = some (.cells #[.int .i64 a0_0, .slice A0_1 l0_1.length c0_1, .slice (some ad331) l0_2.length c0_2, .slice A0_3 l0_3.length c0_3, .int .u32 a0_4, .int .u32 a0_5] 46 (0, 0))) := ⟨by (with_reducible repeat (first | apply bkN | apply bkD | apply bkA)); refine blk_far ?_ NB319_332.out _; (with_reducible repeat (first | apply bkN | apply bkD | apply bkA)); refine blk_far ?_ NB319_332.out _; (with_reducible repeat (first | apply bkN | apply bkD | apply bkA)); refine blk_far ?_ NB319_332.out _; (with_reducible repeat (first | apply bkN | apply bkD | apply bkA)); refine blk_far ?_ NB319_332.out _; (with_reducible repeat (first | apply bkN | apply bkD | apply bkA)); exact BK319.out⟩
             have n4_ : Aside0 (((((w31.setCell ⟨gb332, 0, none⟩ (.bool ((rd_T61 l0_2 x23_1).f0))).setCell ⟨gb332, 1, none⟩ (.int .i64 ((rd_T61 l0_2 x23_1).f1.f0))).setCell ⟨gb332, 2, none⟩ (.slice A331_2 ((rd_T61 l0_2 x23_1).f1.f1).length c331_2)).setCell ⟨gb332, 3, none⟩ (.slice A331_3 ((rd_T61 l0_2 x23_1).f1.f2).length c331_3)).heap[gb320]? = some (.cells #[.int .i64 0, .slice none 0 0, .slice none 0 0, .slice none 0 0, .int .u32 0, .int .u32 0] 46 (0, 0))) := ⟨by (with_reducible repeat (first | apply bkN | apply bkD | apply bkA)); refine blk_far ?_ NB320_332.out _; (with_reducible repeat (first | apply bkN | apply bkD | apply bkA)); refine blk_far ?_ NB320_332.out _; (with_reducible repeat (first | apply bkN | apply bkD | apply bkA)); refine blk_far ?_ NB320_332.out _; (with_reducible repeat (first | apply bkN | apply bkD | apply bkA)); refine blk_far ?_ NB320_332.out _; (with_reducible repeat (first | apply bkN | apply bkD | apply bkA)); exact BK320.out⟩
             have n5_ : Aside0 (((((w31.setCell ⟨gb332, 0, none⟩ (.bool ((rd_T61 l0_2 x23_1).f0))).setCell ⟨gb332, 1, none⟩ (.int .i64 ((rd_T61 l0_2 x23_1).f1.f0))).setCell ⟨gb332, 2, none⟩ (.slice A331_2 ((rd_T61 l0_2 x23_1).f1.f1).length c331_2)).setCell ⟨gb332, 3, none⟩ (.slice A331_3 ((rd_T61 l0_2 x23_1).f1.f2).length c331_3)).heap[gb330]? = some (.cells #[.int .i64 a0_0, .slice Ao16 y324.length co16, u331002, .slice Ao15 t327.length co15, .int .u32 a0_4, .int .u32 a0_5] 46 (0, 0))) := ⟨by (with_reducible repeat (first | apply bkN | apply bkD | apply bkA)); refine blk_far ?_ NB330_332.out _; (with_reducible repeat (first | apply bkN | apply bkD | apply bkA)); refine blk_far ?_ NB330_332.out _; (with_reducible repeat (first | apply bkN | apply bkD | apply bkA)); refine blk_far ?_ NB330_332.out _; (with_reducible repeat (first | apply bkN | apply bkD | apply bkA)); refine blk_far ?_ NB330_332.out _; (with_reducible repeat (first | apply bkN | apply bkD | apply bkA)); exact BK330.out⟩
             have n6_ : Aside0 (((((w31.setCell ⟨gb332, 0, none⟩ (.bool ((rd_T61 l0_2 x23_1).f0))).setCell ⟨gb332, 1, none⟩ (.int .i64 ((rd_T61 l0_2 x23_1).f1.f0))).setCell ⟨gb332, 2, none⟩ (.slice A331_2 ((rd_T61 l0_2 x23_1).f1.f1).length c331_2)).setCell ⟨gb332, 3, none⟩ (.slice A331_3 ((rd_T61 l0_2 x23_1).f1.f2).length c331_3)).heap[gb332]? = some (.cells #[.bool ((rd_T61 l0_2 x23_1).f0), .int .i64 ((rd_T61 l0_2 x23_1).f1.f0), .slice A331_2 ((rd_T61 l0_2 x23_1).f1.f1).length c331_2, .slice A331_3 ((rd_T61 l0_2 x23_1).f1.f2).length c331_3] 61 (0, 0))) := ⟨by (with_reducible repeat (first | apply bkN | apply bkD | apply bkA)); refine blk_put (cs := #[.bool ((rd_T61 l0_2 x23_1).f0), .int .i64 ((rd_T61 l0_2 x23_1).f1.f0), .slice A331_2 ((rd_T61 l0_2 x23_1).f1.f1).length c331_2, .slice none 0 0]) ?_ 3 _ rfl; (with_reducible repeat (first | apply bkN | apply bkD | apply bkA)); refine blk_put (cs := #[.bool ((rd_T61 l0_2 x23_1).f0), .int .i64 ((rd_T61 l0_2 x23_1).f1.f0), .slice none 0 0, .slice none 0 0]) ?_ 2 _ rfl; (with_reducible repeat (first | apply bkN | apply bkD | apply bkA)); refine blk_put (cs := #[.bool ((rd_T61 l0_2 x23_1).f0), .int .i64 0, .slice none 0 0, .slice none 0 0]) ?_ 1 _ rfl; (with_reducible repeat (first | apply bkN | apply bkD | apply bkA)); refine blk_put (cs := #[.bool false, .int .i64 0, .slice none 0 0, .slice none 0 0]) ?_ 0 _ rfl; (with_reducible repeat (first | apply bkN | apply bkD | apply bkA)); exact BK332.out⟩
             have n7_ : Aside0 (Below w.heap.size w ((((w31.setCell ⟨gb332, 0, none⟩ (.bool ((rd_T61 l0_2 x23_1).f0))).setCell ⟨gb332, 1, none⟩ (.int .i64 ((rd_T61 l0_2 x23_1).f1.f0))).setCell ⟨gb332, 2, none⟩ (.slice A331_2 ((rd_T61 l0_2 x23_1).f1.f1).length c331_2)).setCell ⟨gb332, 3, none⟩ (.slice A331_3 ((rd_T61 l0_2 x23_1).f1.f2).length c331_3))) := ⟨by repeat (first | (with_reducible first | exact HB.out | apply blA | apply blN | apply blD | refine bS ?_ GE319.out | refine bS ?_ GE320.out | refine bS ?_ GE330.out | refine bS ?_ GE332.out) | exact HB.out)⟩
             (try clear HO_331001)
             (try clear HO_331002)
             (try clear HO_331003)
             (try clear BK319)
             (try clear BK320)
             (try clear BK330)
             (try clear BK332)
             (try clear HB)
             generalize ((((w31.setCell ⟨gb332, 0, none⟩ (.bool ((rd_T61 l0_2 x23_1).f0))).setCell ⟨gb332, 1, none⟩ (.int .i64 ((rd_T61 l0_2 x23_1).f1.f0))).setCell ⟨gb332, 2, none⟩ (.slice A331_2 ((rd_T61 l0_2 x23_1).f1.f1).length c331_2)).setCell ⟨gb332, 3, none⟩ (.slice A331_3 ((rd_T61 l0_2 x23_1).f1.f2).length c331_3)) = w36 at n0_ n1_ n2_ n3_ n4_ n5_ n6_ n7_ ⊢
             have HO_331001 := n0_
             have HO_331002 := n1_
             have HO_331003 := n2_
             have BK319 := n3_
             have BK320 := n4_
             have BK330 := n5_
             have BK332 := n6_
             have HB := n7_
             clear n0_ n1_ n2_ n3_ n4_ n5_ n6_ n7_
             have n0_ := aM (Kd.R_drew HO_331001.out)
             have n1_ := aM (Kd.R_drew HO_331002.out)
             have n2_ := aM (Kd.S_drew HO_331003.out)
             have n3_ := aM (blk_drew BK319.out)
             have n4_ := aM (blk_drew BK320.out)
             have n5_ := aM (blk_drew BK330.out)
             have n6_ := aM (blk_drew BK332.out)
             have n7_ := aM (below_drew1 HB.out)
             clear HO_331001
             clear HO_331002
             clear HO_331003
             clear BK319
             clear BK320
             clear BK330
             clear BK332
             clear HB
             have HO_331001 := n0_
             have HO_331002 := n1_
             have HO_331003 := n2_
             have BK319 := n3_
             have BK320 := n4_
             have BK330 := n5_
             have BK332 := n6_
             have HB := n7_
             clear n0_ n1_ n2_ n3_ n4_ n5_ n6_ n7_
             refine start_ (n := 12) (S := fun w' => w'.cell? ⟨gb330, 0, none⟩ = some (.int .i64 a0_0) ∧ w'.cell? ⟨gb330, 1, none⟩ = some (.slice Ao16 y324.length co16) ∧ w'.cell? ⟨gb330, 2, none⟩ = some (u331002) ∧ w'.cell? ⟨gb330, 3, none⟩ = some (.slice Ao15 t327.length co15) ∧ w'.cell? ⟨gb330, 4, none⟩ = some (.int .u32 a0_4) ∧ w'.cell? ⟨gb330, 5, none⟩ = some (.int .u32 a0_5) ∧ w'.cell? ⟨gb332, 0, none⟩ = some (.bool ((rd_T61 l0_2 x23_1).f0)) ∧ w'.cell? ⟨gb332, 1, none⟩ = some (.int .i64 ((rd_T61 l0_2 x23_1).f1.f0)) ∧ w'.cell? ⟨gb332, 2, none⟩ = some (.slice A331_2 ((rd_T61 l0_2 x23_1).f1.f1).length c331_2) ∧ w'.cell? ⟨gb332, 3, none⟩ = some (.slice A331_3 ((rd_T61 l0_2 x23_1).f1.f2).length c331_3)) (ds := [11]) (tf 0 12) (by kernel_rfl) rfl rfl ⟨(blk_cell BK330.out 0).trans rfl, (blk_cell BK330.out 1).trans rfl, (blk_cell BK330.out 2).trans rfl, (blk_cell BK330.out 3).trans rfl, (blk_cell BK330.out 4).trans rfl, (blk_cell BK330.out 5).trans rfl, (blk_cell BK332.out 0).trans rfl, (blk_cell BK332.out 1).trans rfl, (blk_cell BK332.out 2).trans rfl, (blk_cell BK332.out 3).trans rfl⟩ (fun hHeld => ?_); refine with_tabW dragomanref11_Copy.tab5 dragomanref11_Copy.bits5 (fun HT_ HW_ => ?_)
             generalize w36.drew = w37 at HO_331001 HO_331002 HO_331003 BK319 BK320 BK330 BK332 HB hHeld ⊢
             refine pure_ (i := 0) (N := some 27) (v := ?_) (a' := ?_) (tf 1 11) rfl rfl (any_of HT_.out (by kernel_rfl)) (fun _ _ _ h => h) (Or.inl ⟨by rfl, ?_⟩) ?_ ?_
             rotate_left
             · intro w'
               go_simp
               with_reducible rfl
             rotate_left
             · simp only [Act.put, sT, sZ, sS, i64_w, i32_w]
               rfl
             refine pure_ (i := 2) (N := some 29) (v := ?_) (a' := ?_) #[true, false, true, false, false, false, false, false, false, false, false, false] rfl rfl (any_of HT_.out (by kernel_rfl)) (fun _ _ _ h => h) (Or.inl ⟨by rfl, ?_⟩) ?_ ?_
             rotate_left
             · intro w'
               go_simp
               with_reducible rfl
             rotate_left
             · simp only [Act.put, sT, sZ, sS, i64_w, i32_w]
               rfl
             refine pure_ (i := 4) (N := some 31) (v := ?_) (a' := ?_) #[true, false, true, false, true, false, false, false, false, false, false, false] rfl rfl (any_of HT_.out (by kernel_rfl)) (fun _ _ _ h => h) (Or.inl ⟨by rfl, ?_⟩) ?_ ?_
             rotate_left
             · intro w'
               go_simp
               with_reducible rfl
             rotate_left
             · simp only [Act.put, sT, sZ, sS, i64_w, i32_w]
               rfl
             refine take_ (i := 1) (N := some 28) (v := ?_) (a' := ?_) #[true, true, true, false, true, false, false, false, false, false, false, false] rfl rfl (take_ofW HT_.out HW_.out (by kernel_rfl)) (fun _ _ _ h => h) (Or.inl ⟨by rfl, ?_⟩) hHeld ?_ ?_
             rotate_left
             · rintro w' ⟨s0, s1, s2, s3, s4, s5, s6, s7, s8, s9⟩
               go_simp
               with_reducible rfl
             rotate_left
             · simp only [Act.put, sT, sZ, sS, i64_w, i32_w]
               rfl
             refine take_ (i := 3) (N := some 30) (v := ?_) (a' := ?_) (tf 5 7) rfl rfl (take_ofW HT_.out HW_.out (by kernel_rfl)) (fun _ _ _ h => h) (Or.inl ⟨by rfl, ?_⟩) hHeld ?_ ?_
             rotate_left
             · rintro w' ⟨s0, s1, s2, s3, s4, s5, s6, s7, s8, s9⟩
               go_simp
               with_reducible rfl
             rotate_left
             · simp only [Act.put, sT, sZ, sS, i64_w, i32_w]
               rfl
             refine take_ (i := 5) (N := some 32) (v := ?_) (a' := ?_) (tf 6 6) rfl rfl (take_ofW HT_.out HW_.out (by kernel_rfl)) (fun _ _ _ h => h) (Or.inl ⟨by rfl, ?_⟩) hHeld ?_ ?_
             rotate_left
             · rintro w' ⟨s0, s1, s2, s3, s4, s5, s6, s7, s8, s9⟩
               go_simp
               with_reducible rfl
             rotate_left
             · simp only [Act.put, sT, sZ, sS, i64_w, i32_w]
               rfl
             refine one_ (i := 6) (N := some 33) (tf 7 5) rfl rfl (one_of HT_.out (by kernel_rfl)) (by decide) (fun K hK => ?_)
             refine goes_ Try.func15 (by kernel_rfl) rfl #[.agg #[.int .i64 ((rd_T61 l0_2 x23_1).f1.f0), .slice A331_2 ((rd_T61 l0_2 x23_1).f1.f1).length c331_2, .slice A331_3 ((rd_T61 l0_2 x23_1).f1.f2).length c331_3]] (by rfl) rfl rfl (by (try simp only [List.map_toArray, List.map_cons, List.map_nil]); first | done | rfl | (simp only [List.length_drop, List.length_take]; rfl)) ?_
             with_reducible refine (r5_Copy.calls k1 ((rd_T61 l0_2 x23_1).f1.f0) _ _ ((rd_T61 l0_2 x23_1).f1.f1) _ _ ((rd_T61 l0_2 x23_1).f1.f2) t333 t334 t337 _ ?side1 ?side2 ?side3 ?side4 A29.out).mono ?_
             (case side1 => repeat (first | exact (Kd.C_below HR331_2.out HB.out) | (with_reducible refine Kd.C_alloc ?_ _) | (with_reducible refine Kd.C_drewN ?_ _) | (with_reducible refine Kd.C_drew ?_)))
             (case side2 => exact HC331_2.out)
             (case side3 => repeat (first | exact (Kd.C_below HR331_3.out HB.out) | (with_reducible refine Kd.C_alloc ?_ _) | (with_reducible refine Kd.C_drewN ?_ _) | (with_reducible refine Kd.C_drew ?_)))
             (case side4 => exact HC331_3.out)
             rintro e w38 ⟨v335, v338, rfl, ho0, ho1, hb⟩
             refine ⟨_, rfl, ?_⟩
             have n0_ := aM (Kd.R_below (uk_ HO_331001.out) hb)
             have n1_ := aM (Kd.R_mono (Kd.R_told (Kd.R_told (Kd.R_old (uk_ HO_331002.out) hb) (Kd.R_base ho0)) (Kd.R_base ho1)) (fun _ h_ => h_.1))
             have n2_ := aM (Kd.S_below (by (with_reducible repeat (first | apply Kd.S_alloc | apply Kd.S_drewN | apply Kd.S_drew)); exact HO_331003.out) hb)
             have n3_ := aM (Kd.R_lower ho0 (below_size (by repeat (first | (with_reducible first | exact HB.out | apply blA | apply blN | apply blD | refine bS ?_ GE319.out | refine bS ?_ GE320.out | refine bS ?_ GE330.out | refine bS ?_ GE332.out) | exact HB.out))))
             have n4_ := aM (Kd.R_lower ho1 (below_size (by repeat (first | (with_reducible first | exact HB.out | apply blA | apply blN | apply blD | refine bS ?_ GE319.out | refine bS ?_ GE320.out | refine bS ?_ GE330.out | refine bS ?_ GE332.out) | exact HB.out))))
             have n5_ := aM (blk_below (g := gb319) (o := .cells #[.int .i64 a0_0, .slice A0_1 l0_1.length c0_1, .slice (some ad331) l0_2.length c0_2, .slice A0_3 l0_3.length c0_3, .int .u32 a0_4, .int .u32 a0_5] 46 (0, 0)) (up_ BK319.out) hb)
             have n6_ := aM (blk_below (g := gb320) (o := .cells #[.int .i64 0, .slice none 0 0, .slice none 0 0, .slice none 0 0, .int .u32 0, .int .u32 0] 46 (0, 0)) (up_ BK320.out) hb)
             have n7_ := aM (blk_below (g := gb330) (o := .cells #[.int .i64 a0_0, .slice Ao16 y324.length co16, u331002, .slice Ao15 t327.length co15, .int .u32 a0_4, .int .u32 a0_5] 46 (0, 0)) (up_ BK330.out) hb)
             have n8_ := aM (blk_below (g := gb332) (o := .cells #[.bool ((rd_T61 l0_2 x23_1).f0), .int .i64 ((rd_T61 l0_2 x23_1).f1.f0), .slice A331_2 ((rd_T61 l0_2 x23_1).f1.f1).length c331_2, .slice A331_3 ((rd_T61 l0_2 x23_1).f1.f2).length c331_3] 61 (0, 0)) (up_ BK332.out) hb)
             have n9_ := aM (below_step (by repeat (first | (with_reducible first | exact HB.out | apply blA | apply blN | apply blD | refine bS ?_ GE319.out | refine bS ?_ GE320.out | refine bS ?_ GE330.out | refine bS ?_ GE332.out) | exact HB.out)) hb)
             clear HO_331001
             clear HO_331002
             clear HO_331003
             clear BK319
             clear BK320
             clear BK330
             clear BK332
             clear HB
             have HO_331001 := n0_
             have HO_331002 := n1_
             have HO_331003 := n2_
             have HO336 := n3_
             have HO339 := n4_
             have BK319 := n5_
             have BK320 := n6_
             have BK330 := n7_
             have BK332 := n8_
             have HB := n9_
             clear n0_ n1_ n2_ n3_ n4_ n5_ n6_ n7_ n8_ n9_
             (try clear hb)
             (try clear hb2)
             (try clear hk)
             (try clear hi)
             (try clear ho0)
             (try clear ho1)
             obtain ⟨Ao39, co39, eo39⟩ := Kd.R_slice HO339.out
             (first | subst eo39 | (injection eo39 with f1_ f2_ f3_; have f4_ := f1_.symm; have f5_ := f3_.symm; clear f1_ f2_ f3_; subst f4_; subst f5_))
             obtain ⟨Ao40, co40, eo40⟩ := Kd.R_slice HO336.out
             (first | subst eo40 | (injection eo40 with f1_ f2_ f3_; have f4_ := f1_.symm; have f5_ := f3_.symm; clear f1_ f2_ f3_; subst f4_; subst f5_))
             refine hK.out _ _ ⟨(blk_cell BK330.out 0).trans rfl, (blk_cell BK330.out 1).trans rfl, (blk_cell BK330.out 2).trans rfl, (blk_cell BK330.out 3).trans rfl, (blk_cell BK330.out 4).trans rfl, (blk_cell BK330.out 5).trans rfl, (blk_cell BK332.out 0).trans rfl, (blk_cell BK332.out 1).trans rfl, (blk_cell BK332.out 2).trans rfl, (blk_cell BK332.out 3).trans rfl⟩ (fun hHeld => ?_)
             clear hK K
             refine norm_ (a' := ?_) ?_ ?_
             rotate_left
             · show Act.put _ (some 33) _ = _
               simp only [Act.put, sT, sZ, sS, i64_w, i32_w]
               rfl
             refine pure_ (i := 7) (N := some 34) (v := ?_) (a' := ?_) (tf 8 4) rfl rfl (any_of HT_.out (by kernel_rfl)) (fun _ _ _ h => h) (Or.inl ⟨by rfl, ?_⟩) ?_ ?_
             rotate_left
             · intro w'
               go_simp
               with_reducible rfl
             rotate_left
             · simp only [Act.put, sT, sZ, sS, i64_w, i32_w]
               rfl
             refine one_ (i := 8) (N := some 35) (tf 9 3) rfl rfl (one_of HT_.out (by kernel_rfl)) (by decide) (fun K hK => ?_)
             refine value_ (w1 := ?_) (v := ?_) (by rfl) rfl ?_ ?_
             rotate_left 2
             · go_simp
               constructor
               · rfl
               · rfl
             refine hK.out _ _ ⟨(blk_cell (blk_alloc BK330.out _) 0).trans rfl, (blk_cell (blk_alloc BK330.out _) 1).trans rfl, (blk_cell (blk_alloc BK330.out _) 2).trans rfl, (blk_cell (blk_alloc BK330.out _) 3).trans rfl, (blk_cell (blk_alloc BK330.out _) 4).trans rfl, (blk_cell (blk_alloc BK330.out _) 5).trans rfl, (blk_cell (blk_alloc BK332.out _) 0).trans rfl, (blk_cell (blk_alloc BK332.out _) 1).trans rfl, (blk_cell (blk_alloc BK332.out _) 2).trans rfl, (blk_cell (blk_alloc BK332.out _) 3).trans rfl⟩ (fun hHeld => ?_)
             clear hK K
             refine norm_ (a' := ?_) ?_ ?_
             rotate_left
             · show Act.put _ (some 35) _ = _
               simp only [Act.put, sT, sZ, sS, i64_w, i32_w]
               rfl
             refine one_ (i := 9) (N := some 36) (tf 10 2) rfl rfl (one_of HT_.out (by kernel_rfl)) (by decide) (fun K hK => ?_)
             refine Kd.R_append_step k61 (w0 := w) w.heap.size (by rfl) (.tmp 28) (.tmp 35) 43 61 (.agg #[(.bool false), (.int .i64 0), (.slice none 0 0), (.slice none 0 0)]) 64 rfl Try.underlying43 info61 rfl (by decide) (by omega) u331002 x331002_1 (⟨(rd_T61 l0_2 x23_1).f0, (⟨t333, t334, t337⟩ : S25)⟩ : S61) [.bool ((rd_T61 l0_2 x23_1).f0), .int .i64 t333, .slice Ao40 t334.length co40, .slice Ao39 t337.length co39] (fun k_ => k_ ≠ gb332) (fun k_ => ((fun k_ => k_ ≠ gb332)) k_ ∧ some k_ ≠ (u331002 : Value).ownBlock) rfl rfl ?aP (fun _ hk => hk) ?aF ?aO ?aB ?aS ?aL ?_
             (case aP => exact k61_mkM _ _ _ (⟨(rd_T61 l0_2 x23_1).f0, (⟨t333, t334, t337⟩ : S25)⟩ : S61) (Kd.R_mono (Kd.R_types (Kd.R_apart' (HO336.out) (Kd.R_typed HO_331002.out) (by decide)) BK332.out (by decide)) (fun k_ hk => ⟨hk.2, hk.1.2⟩)) (Kd.R_mono (Kd.R_types (Kd.R_apart' (HO339.out) (Kd.R_typed HO_331002.out) (by decide)) BK332.out (by decide)) (fun k_ hk => ⟨hk.2, hk.1.2⟩)))
             (case aB => exact (by repeat (first | (with_reducible first | exact HB.out | apply blA | apply blN | apply blD | refine bS ?_ GE319.out | refine bS ?_ GE320.out | refine bS ?_ GE330.out | refine bS ?_ GE332.out) | exact HB.out)))
             (case aF => exact (fun k_ hk => Kd.freshB (g := gb332) (o := .cells #[.bool ((rd_T61 l0_2 x23_1).f0), .int .i64 ((rd_T61 l0_2 x23_1).f1.f0), .slice A331_2 ((rd_T61 l0_2 x23_1).f1.f1).length c331_2, .slice A331_3 ((rd_T61 l0_2 x23_1).f1.f2).length c331_3] 61 (0, 0)) (up_ BK332.out) k_ hk))
             (case aO => exact (by (with_reducible repeat (first | apply kA | apply kN | apply kD)); exact Kd.R_mono HO_331002.out (fun _ hk => hk.1.1)))
             (case aS => exact (below_size (by repeat (first | (with_reducible first | exact HB.out | apply blA | apply blN | apply blD | refine bS ?_ GE319.out | refine bS ?_ GE320.out | refine bS ?_ GE330.out | refine bS ?_ GE332.out) | exact HB.out))))
             (case aL => have := LMc30.out; omega)
             intro v341 w41 ho hb hg hat
             rw [← Ny340.out] at ho
             have n0_ := aM (Kd.R_over' (uk_ HO_331001.out) (Kd.R_typed (uk_ HO_331002.out)) (by decide) hg)
             have n1_ := aM (Kd.S_over' (by (with_reducible repeat (first | apply Kd.S_alloc | apply Kd.S_drewN | apply Kd.S_drew)); exact HO_331003.out) (Kd.R_typed (uk_ HO_331002.out)) (by decide) hg)
             have n2_ := aM (blk_grown (g := gb319) (o := .cells #[.int .i64 a0_0, .slice A0_1 l0_1.length c0_1, .slice (some ad331) l0_2.length c0_2, .slice A0_3 l0_3.length c0_3, .int .u32 a0_4, .int .u32 a0_5] 46 (0, 0)) (up_ BK319.out) hg (Kd.R_ne HO_331002.out BK319.out (by decide)))
             have n3_ := aM (blk_grown (g := gb320) (o := .cells #[.int .i64 0, .slice none 0 0, .slice none 0 0, .slice none 0 0, .int .u32 0, .int .u32 0] 46 (0, 0)) (up_ BK320.out) hg (Kd.R_ne HO_331002.out BK320.out (by decide)))
             have n4_ := aM (blk_grown (g := gb330) (o := .cells #[.int .i64 a0_0, .slice Ao16 y324.length co16, u331002, .slice Ao15 t327.length co15, .int .u32 a0_4, .int .u32 a0_5] 46 (0, 0)) (up_ BK330.out) hg (Kd.R_ne HO_331002.out BK330.out (by decide)))
             have n5_ := aM (blk_grown (g := gb332) (o := .cells #[.bool ((rd_T61 l0_2 x23_1).f0), .int .i64 ((rd_T61 l0_2 x23_1).f1.f0), .slice A331_2 ((rd_T61 l0_2 x23_1).f1.f1).length c331_2, .slice A331_3 ((rd_T61 l0_2 x23_1).f1.f2).length c331_3] 61 (0, 0)) (up_ BK332.out) hg (Kd.R_away HO_331002.out (fun _ hk => hk.1.1)))
             have n6_ := aM (hb)
             have n7_ := aM (ho)
             clear HO_331001
             clear HO_331003
             clear BK319
             clear BK320
             clear BK330
             clear BK332
             clear HB
             clear HO_331002
             clear HO336
             clear HO339
             have HO_331001 := n0_
             have HO_331003 := n1_
             have BK319 := n2_
             have BK320 := n3_
             have BK330 := n4_
             have BK332 := n5_
             have HB := n6_
             have HO342 := n7_
             clear n0_ n1_ n2_ n3_ n4_ n5_ n6_ n7_
             clear ho hb hg hat
             obtain ⟨Ao42, co42, eo42⟩ := Kd.R_slice HO342.out
             (first | subst eo42 | (injection eo42 with f1_ f2_ f3_; have f4_ := f1_.symm; have f5_ := f3_.symm; clear f1_ f2_ f3_; subst f4_; subst f5_))
             refine hK.out _ _ ⟨(blk_cell BK330.out 0).trans rfl, (blk_cell BK330.out 1).trans rfl, (blk_cell BK330.out 2).trans rfl, (blk_cell BK330.out 3).trans rfl, (blk_cell BK330.out 4).trans rfl, (blk_cell BK330.out 5).trans rfl, (blk_cell BK332.out 0).trans rfl, (blk_cell BK332.out 1).trans rfl, (blk_cell BK332.out 2).trans rfl, (blk_cell BK332.out 3).trans rfl⟩ (fun hHeld => ?_)
             clear hK K
             refine norm_ (a' := ?_) ?_ ?_
             rotate_left
             · show Act.put _ (some 36) _ = _
               simp only [Act.put, sT, sZ, sS, i64_w, i32_w]
               rfl
             refine pure_ (i := 10) (N := some 37) (v := ?_) (a' := ?_) (tf 11 1) rfl rfl (any_of HT_.out (by kernel_rfl)) (fun _ _ _ h => h) (Or.inl ⟨by rfl, ?_⟩) ?_ ?_
             rotate_left
             · intro w'
               go_simp
               with_reducible rfl
             rotate_left
             · simp only [Act.put, sT, sZ, sS, i64_w, i32_w]
               rfl
             refine last_ (i := 11) (N := none) (tf 12 0) rfl rfl (one_of HT_.out (by kernel_rfl)) (by decide) (fun K hK => ?_)
             have hs43 : w41.cell? ⟨gb330, 2, none⟩ = some (u331002) := (blk_cell BK330.out 2).trans rfl
             have hfs43 := bF BK330.out 2
             have hns43_0 := NB319_330.out
             have hns43_1 := NB320_330.out
             have hns43_3 := NB332_330.out
             have hms43_0 := NB330_319.out
             have hms43_1 := NB330_320.out
             have hms43_3 := NB330_332.out
             refine skip_ (w1 := ?_) (by rfl) rfl ?_ ?_
             rotate_left
             · go_simp
               rfl
             refine hK.out _ _ ?_
             clear hK K
             refine done_ (done_of HT_.out (by kernel_rfl)) ?_
             try go_wp2
             go_roundg k1
             case measure => have := HK1.out; omega
             case rel => exact ⟨(wrap64 (x23_1 + 1)), (y340), (.slice Ao42 y340.length co42), (by first | rfl | (simp; done) | (simp [*]; done)), H', ⟨by have := HK1.out; omega⟩, ⟨by (with_reducible repeat (first | apply kA | apply kN | apply kD)); exact Kd.R_mono (Kd.R_far (p := ⟨gb330, 2, none⟩) (Kd.R_types HO_331001.out BK330.out (by decide)) (fun _ hk => hk.2) (.slice Ao42 y340.length co42)) (fun _ hk => trivial)⟩, ⟨by (with_reducible repeat (first | apply kA | apply kN | apply kD)); exact Kd.R_mono (Kd.R_far (p := ⟨gb330, 2, none⟩) (Kd.R_types HO342.out BK330.out (by decide)) (fun _ hk => hk.2) (.slice Ao42 y340.length co42)) (fun _ hk => trivial)⟩, ⟨by (with_reducible repeat (first | apply Kd.S_alloc | apply Kd.S_drewN | apply Kd.S_drew)); exact Kd.S_mono (Kd.S_far (p := ⟨gb330, 2, none⟩) (Kd.S_types HO_331003.out BK330.out (by decide)) (fun _ hk => hk.2) (.slice Ao42 y340.length co42)) (fun _ hk => trivial)⟩, ⟨by (with_reducible repeat (first | apply bkN | apply bkD | apply bkA)); refine blk_far ?_ NB319_330.out _; (with_reducible repeat (first | apply bkN | apply bkD | apply bkA)); exact BK319.out⟩, ⟨by (with_reducible repeat (first | apply bkN | apply bkD | apply bkA)); refine blk_far ?_ NB320_330.out _; (with_reducible repeat (first | apply bkN | apply bkD | apply bkA)); exact BK320.out⟩, ⟨by (with_reducible repeat (first | apply bkN | apply bkD | apply bkA)); refine blk_put (cs := #[.int .i64 a0_0, .slice Ao16 y324.length co16, u331002, .slice Ao15 t327.length co15, .int .u32 a0_4, .int .u32 a0_5]) ?_ 2 _ rfl; (with_reducible repeat (first | apply bkN | apply bkD | apply bkA)); exact BK330.out⟩, ⟨by repeat (first | (with_reducible first | exact HB.out | apply blA | apply blN | apply blD | refine bS ?_ GE319.out | refine bS ?_ GE320.out | refine bS ?_ GE330.out | refine bS ?_ GE332.out) | exact HB.out)⟩⟩
           · rw [if_neg c30] at H
             exact absurd H (by simp)
         · rw [if_neg c28] at H
           exact absurd H (by simp)
       · rw [if_neg c27] at H
         exact absurd H (by simp)
     · rw [if_neg c26] at H
       have c26b0 : decide (x23_1 < (l0_2.length : Int)) = false := decide_eq_false c26
       clear c26
       simp only [Option.some.injEq, Prod.mk.injEq] at H
       obtain ⟨rfl, rfl, rfl, rfl, rfl, rfl⟩ := H
       have hnb44 := NB330_319.out
       have hnc44 := NB319_330.out
       have hnb45 := NB330_320.out
       have hnc45 := NB320_330.out
       have hcz46_0 : wr.cell? ⟨gb330, 0, none⟩ = some (.int .i64 a0_0) := (blk_cell BK330.out 0).trans rfl
       have hcz46_1 : wr.cell? ⟨gb330, 1, none⟩ = some (.slice Ao16 y324.length co16) := (blk_cell BK330.out 1).trans rfl
       have hcz46_2 : wr.cell? ⟨gb330, 2, none⟩ = some (u331002) := (blk_cell BK330.out 2).trans rfl
       have hcz46_3 : wr.cell? ⟨gb330, 3, none⟩ = some (.slice Ao15 t327.length co15) := (blk_cell BK330.out 3).trans rfl
       have hcz46_4 : wr.cell? ⟨gb330, 4, none⟩ = some (.int .u32 a0_4) := (blk_cell BK330.out 4).trans rfl
       have hcz46_5 : wr.cell? ⟨gb330, 5, none⟩ = some (.int .u32 a0_5) := (blk_cell BK330.out 5).trans rfl
       have hfz46_0 := bF BK330.out 0
       have hfz46_1 := bF BK330.out 1
       have hfz46_2 := bF BK330.out 2
       have hfz46_3 := bF BK330.out 3
       have hfz46_4 := bF BK330.out 4
       have hfz46_5 := bF BK330.out 5
       have hnb47 := NB320_319.out
       have hnc47 := NB319_320.out
       have hcz48_0 : wr.cell? ⟨gb320, 0, none⟩ = some (.int .i64 0) := (blk_cell BK320.out 0).trans rfl
       have hcz48_1 : wr.cell? ⟨gb320, 1, none⟩ = some (.slice none 0 0) := (blk_cell BK320.out 1).trans rfl
       have hcz48_2 : wr.cell? ⟨gb320, 2, none⟩ = some (.slice none 0 0) := (blk_cell BK320.out 2).trans rfl
       have hcz48_3 : wr.cell? ⟨gb320, 3, none⟩ = some (.slice none 0 0) := (blk_cell BK320.out 3).trans rfl
       have hcz48_4 : wr.cell? ⟨gb320, 4, none⟩ = some (.int .u32 0) := (blk_cell BK320.out 4).trans rfl
       have hcz48_5 : wr.cell? ⟨gb320, 5, none⟩ = some (.int .u32 0) := (blk_cell BK320.out 5).trans rfl
       have hfz48_0 := bF BK320.out 0
       have hfz48_1 := bF BK320.out 1
       have hfz48_2 := bF BK320.out 2
       have hfz48_3 := bF BK320.out 3
       have hfz48_4 := bF BK320.out 4
       have hfz48_5 := bF BK320.out 5
       obtain ⟨Ao49, co49, eo49⟩ := Kd.R_slice HO_331002.out
       subst eo49
       go_wp2
       refine bodyPost_ret (results_cell_row rfl _ _ gb320 46 #[.int .i64 a0_0, .slice Ao16 y324.length co16, .slice Ao49 x331002_1.length co49, .slice Ao15 t327.length co15, .int .u32 a0_4, .int .u32 a0_5] (0, 0) _ rfl (by (with_reducible repeat (first | apply bkN | apply bkD | apply bkA)); refine blk_put (cs := #[.int .i64 a0_0, .slice Ao16 y324.length co16, .slice Ao49 x331002_1.length co49, .slice Ao15 t327.length co15, .int .u32 a0_4, .int .u32 0]) ?_ 5 _ rfl; (with_reducible repeat (first | apply bkN | apply bkD | apply bkA)); refine blk_put (cs := #[.int .i64 a0_0, .slice Ao16 y324.length co16, .slice Ao49 x331002_1.length co49, .slice Ao15 t327.length co15, .int .u32 0, .int .u32 0]) ?_ 4 _ rfl; (with_reducible repeat (first | apply bkN | apply bkD | apply bkA)); refine blk_put (cs := #[.int .i64 a0_0, .slice Ao16 y324.length co16, .slice Ao49 x331002_1.length co49, .slice none 0 0, .int .u32 0, .int .u32 0]) ?_ 3 _ rfl; (with_reducible repeat (first | apply bkN | apply bkD | apply bkA)); refine blk_put (cs := #[.int .i64 a0_0, .slice Ao16 y324.length co16, .slice none 0 0, .slice none 0 0, .int .u32 0, .int .u32 0]) ?_ 2 _ rfl; (with_reducible repeat (first | apply bkN | apply bkD | apply bkA)); refine blk_put (cs := #[.int .i64 a0_0, .slice none 0 0, .slice none 0 0, .slice none 0 0, .int .u32 0, .int .u32 0]) ?_ 1 _ rfl; (with_reducible repeat (first | apply bkN | apply bkD | apply bkA)); refine blk_put (cs := #[.int .i64 0, .slice none 0 0, .slice none 0 0, .slice none 0 0, .int .u32 0, .int .u32 0]) ?_ 0 _ rfl; (with_reducible repeat (first | apply bkN | apply bkD | apply bkA)); exact BK320.out) Try.underlying46 rfl (by kernel_rfl)) rfl ?_
       exact ⟨_, _, _, by first | rfl | (simp [errW_none, errW_some] <;> rfl) | (simp [*, errW_none, errW_some] <;> rfl), by (with_reducible repeat (first | apply kA | apply kN | apply kD)); exact Kd.R_mono (Kd.R_far (p := ⟨gb320, 5, none⟩) (Kd.R_far (p := ⟨gb320, 4, none⟩) (Kd.R_far (p := ⟨gb320, 3, none⟩) (Kd.R_far (p := ⟨gb320, 2, none⟩) (Kd.R_far (p := ⟨gb320, 1, none⟩) (Kd.R_far (p := ⟨gb320, 0, none⟩) (Kd.R_types HO_331001.out BK320.out (by decide)) (fun _ hk => hk.2) (.int .i64 a0_0)) (fun _ hk => hk.2) (.slice Ao16 y324.length co16)) (fun _ hk => hk.2) (.slice Ao49 x331002_1.length co49)) (fun _ hk => hk.2) (.slice Ao15 t327.length co15)) (fun _ hk => hk.2) (.int .u32 a0_4)) (fun _ hk => hk.2) (.int .u32 a0_5)) (fun _ hk => trivial), by (with_reducible repeat (first | apply kA | apply kN | apply kD)); exact Kd.R_mono (Kd.R_far (p := ⟨gb320, 5, none⟩) (Kd.R_far (p := ⟨gb320, 4, none⟩) (Kd.R_far (p := ⟨gb320, 3, none⟩) (Kd.R_far (p := ⟨gb320, 2, none⟩) (Kd.R_far (p := ⟨gb320, 1, none⟩) (Kd.R_far (p := ⟨gb320, 0, none⟩) (Kd.R_types HO_331002.out BK320.out (by decide)) (fun _ hk => hk.2) (.int .i64 a0_0)) (fun _ hk => hk.2) (.slice Ao16 y324.length co16)) (fun _ hk => hk.2) (.slice Ao49 x331002_1.length co49)) (fun _ hk => hk.2) (.slice Ao15 t327.length co15)) (fun _ hk => hk.2) (.int .u32 a0_4)) (fun _ hk => hk.2) (.int .u32 a0_5)) (fun _ hk => trivial), by (with_reducible repeat (first | apply Kd.S_alloc | apply Kd.S_drewN | apply Kd.S_drew)); exact Kd.S_mono (Kd.S_far (p := ⟨gb320, 5, none⟩) (Kd.S_far (p := ⟨gb320, 4, none⟩) (Kd.S_far (p := ⟨gb320, 3, none⟩) (Kd.S_far (p := ⟨gb320, 2, none⟩) (Kd.S_far (p := ⟨gb320, 1, none⟩) (Kd.S_far (p := ⟨gb320, 0, none⟩) (Kd.S_types HO_331003.out BK320.out (by decide)) (fun _ hk => hk.2) (.int .i64 a0_0)) (fun _ hk => hk.2) (.slice Ao16 y324.length co16)) (fun _ hk => hk.2) (.slice Ao49 x331002_1.length co49)) (fun _ hk => hk.2) (.slice Ao15 t327.length co15)) (fun _ hk => hk.2) (.int .u32 a0_4)) (fun _ hk => hk.2) (.int .u32 a0_5)) (fun _ hk => trivial), by repeat (first | (with_reducible first | exact HB.out | apply blA | apply blN | apply blD | refine bS ?_ GE319.out | refine bS ?_ GE320.out | refine bS ?_ GE330.out) | exact HB.out)⟩
 · rw [if_neg c2] at H
   exact absurd H (by simp)
end Go.Proofs.Ytlkjfjlmjgkheaa.H
