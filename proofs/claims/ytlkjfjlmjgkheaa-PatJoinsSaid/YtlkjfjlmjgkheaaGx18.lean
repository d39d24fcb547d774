import Derived.Test.YtlkjfjlmjgkheaaGx0
import Derived.Test.YtlkjfjlmjgkheaaGx3
import Derived.Test.YtlkjfjlmjgkheaaGx6
import Derived.Test.YtlkjfjlmjgkheaaGx9
namespace Go.Proofs.Ytlkjfjlmjgkheaa.G
open Go.RowKit Go.Proofs.YtlkjfjlmjgkheaaW.PrintWords Go.Proofs.YtlkjfjlmjgkheaaW.PrintLast Go.Proofs.YtlkjfjlmjgkheaaW.PrintMore
attribute [local go_sem] max2_int min2_int max_two min_two max_three min_three max_four min_four
set_option linter.unusedVariables false
set_option linter.unusedSimpArgs false
mutual
def dragomanlaw05_PatJoins.j0 : Nat → List Int → Bool → Int → List (S66) → List (S25) → Int → List (S66) → List (S25) → Int → List (S25) → Int → List (S25) → Option (Bool)
  | 0, _, _, _, _, _, _, _, _, _, _, _, _ => none
  | k + 1, x2, x32, x414000, x414001, x414002, x415000, x415001, x415002, x420000, x420002, x424000, x424002 => if x32 = true then (some true) else (dragomanlaw05_PatJoins.l0 k x2 false (wrap64 ((x2.length : Int) + 1)) 0 x414000 x414001 x414002 x415000 x415001 x415002 x420000 x420002 x424000 x424002)
def dragomanlaw05_PatJoins.l0 : Nat → List Int → Bool → Int → Int → Int → List (S66) → List (S25) → Int → List (S66) → List (S25) → Int → List (S25) → Int → List (S25) → Option (Bool)
  | 0, _, _, _, _, _, _, _, _, _, _, _, _, _, _ => none
  | k + 1, x2, x9, x35, x36, x414000, x414001, x414002, x415000, x415001, x415002, x420000, x420002, x424000, x424002 => if x36 < x35 then (if x9 = true then (dragomanlaw05_PatJoins.l0 k x2 true x35 (wrap64 (x36 + 1)) x414000 x414001 x414002 x415000 x415001 x415002 x420000 x420002 x424000 x424002) else (if 0 ≤ x36 then (if x36 ≤ (x2.length : Int) then ((pat_Match.f k x414000 x414001 x414002 (x2.take (x36 : Int).toNat)).bind fun t427 => (if t427 = true then ((pat_Match.f k x415000 x415001 x415002 (x2.drop (x36 : Int).toNat)).bind fun t429 => (dragomanlaw05_PatJoins.l0 k x2 t429 x35 (wrap64 (x36 + 1)) x414000 x414001 x414002 x415000 x415001 x415002 x420000 x420002 x424000 x424002)) else (dragomanlaw05_PatJoins.l0 k x2 false x35 (wrap64 (x36 + 1)) x414000 x414001 x414002 x415000 x415001 x415002 x420000 x420002 x424000 x424002))) else (none)) else (none))) else ((pat_Match.f k x420000 ([] : List (S66)) x420002 x2).bind fun t430 => (if (t430 == x9) = true then ((pat_Match.f k x424000 ([] : List (S66)) x424002 x2).bind fun t431 => ((pat_Match.f k x414000 x414001 x414002 x2).bind fun t432 => (if t432 = true then (some (t431 == true)) else ((pat_Match.f k x415000 x415001 x415002 x2).bind fun t433 => (some (t431 == t433)))))) else (none)))
end
def dragomanlaw05_PatJoins.f (k : Nat) (a0_0 : Int) (l0_1 : List (S66)) (l0_2 : List (S25)) (a1_0 : Int) (l1_1 : List (S66)) (l1_2 : List (S25)) (l2 : List Int) : Option (Bool) := (dragomanlaw05_alive.f k).bind fun t415 => (if t415 = true then ((some (([(⟨a0_0, l0_1, l0_2⟩ : S25), (⟨a1_0, l1_1, l1_2⟩ : S25)] : List (S25)) : List (S25))).bind fun y416 => ((some (([(⟨a0_0, l0_1, l0_2⟩ : S25), (⟨a1_0, l1_1, l1_2⟩ : S25)] : List (S25)) : List (S25))).bind fun y420 => ((dragomanref05_Great.f k 2 ([] : List (S66)) y416).bind fun t424 => (if t424 = true then (dragomanlaw05_PatJoins.j0 k l2 true a0_0 l0_1 l0_2 a1_0 l1_1 l1_2 2 y416 3 y420) else (if (l2.length : Int) > 30 then (dragomanlaw05_PatJoins.j0 k l2 true a0_0 l0_1 l0_2 a1_0 l1_1 l1_2 2 y416 3 y420) else ((pat_Right.f k 2 ([] : List (S66)) y416).bind fun t425 => (dragomanlaw05_PatJoins.j0 k l2 (!t425) a0_0 l0_1 l0_2 a1_0 l1_1 l1_2 2 y416 3 y420))))))) else (none))
theorem dragomanlaw05_PatJoins.mono_l : ∀ k, (∀ y0 y1 y2 y3 y4 y5 y6 y7 y8 y9 y10 y11, LeO (dragomanlaw05_PatJoins.j0 k y0 y1 y2 y3 y4 y5 y6 y7 y8 y9 y10 y11) (dragomanlaw05_PatJoins.j0 (k + 1) y0 y1 y2 y3 y4 y5 y6 y7 y8 y9 y10 y11)) ∧ (∀ y0 y1 y2 y3 y4 y5 y6 y7 y8 y9 y10 y11 y12 y13, LeO (dragomanlaw05_PatJoins.l0 k y0 y1 y2 y3 y4 y5 y6 y7 y8 y9 y10 y11 y12 y13) (dragomanlaw05_PatJoins.l0 (k + 1) y0 y1 y2 y3 y4 y5 y6 y7 y8 y9 y10 y11 y12 y13))
  | 0 => ⟨fun _ _ _ _ _ _ _ _ _ _ _ _ r h => by simp [dragomanlaw05_PatJoins.j0] at h, fun _ _ _ _ _ _ _ _ _ _ _ _ _ _ r h => by simp [dragomanlaw05_PatJoins.l0] at h⟩
  | k + 1 => by
    obtain ⟨ih0, ih1⟩ := dragomanlaw05_PatJoins.mono_l k
    refine ⟨?_, ?_⟩
    · intro y0 y1 y2 y3 y4 y5 y6 y7 y8 y9 y10 y11
      unfold dragomanlaw05_PatJoins.j0
      repeat' first
      | (with_reducible exact ih0 _ _ _ _ _ _ _ _ _ _ _ _)
      | (with_reducible exact ih1 _ _ _ _ _ _ _ _ _ _ _ _ _ _)
      | (with_reducible exact dragomanlaw05_alive.mono _)
      | (with_reducible exact dragomanref05_Great.mono _ _ _ _)
      | (with_reducible exact pat_Match.mono _ _ _ _ _)
      | (with_reducible exact pat_Right.mono _ _ _ _)
      | (with_reducible exact LeO.refl _)
      | (with_reducible exact LeO.none _)
      | (with_reducible refine LeO.ite ?_ ?_)
      | (with_reducible refine LeO.bind ?_ (fun _ => ?_))
      | exact ih0 _ _ _ _ _ _ _ _ _ _ _ _
      | exact ih1 _ _ _ _ _ _ _ _ _ _ _ _ _ _
      | exact dragomanlaw05_alive.mono _
      | exact dragomanref05_Great.mono _ _ _ _
      | exact pat_Match.mono _ _ _ _ _
      | exact pat_Right.mono _ _ _ _
      | exact LeO.none _
      | refine LeO.ite ?_ ?_
      | refine LeO.bind ?_ (fun _ => ?_)
    · intro y0 y1 y2 y3 y4 y5 y6 y7 y8 y9 y10 y11 y12 y13
      unfold dragomanlaw05_PatJoins.l0
      repeat' first
      | (with_reducible exact ih0 _ _ _ _ _ _ _ _ _ _ _ _)
      | (with_reducible exact ih1 _ _ _ _ _ _ _ _ _ _ _ _ _ _)
      | (with_reducible exact dragomanlaw05_alive.mono _)
      | (with_reducible exact dragomanref05_Great.mono _ _ _ _)
      | (with_reducible exact pat_Match.mono _ _ _ _ _)
      | (with_reducible exact pat_Right.mono _ _ _ _)
      | (with_reducible exact LeO.refl _)
      | (with_reducible exact LeO.none _)
      | (with_reducible refine LeO.ite ?_ ?_)
      | (with_reducible refine LeO.bind ?_ (fun _ => ?_))
      | exact ih0 _ _ _ _ _ _ _ _ _ _ _ _
      | exact ih1 _ _ _ _ _ _ _ _ _ _ _ _ _ _
      | exact dragomanlaw05_alive.mono _
      | exact dragomanref05_Great.mono _ _ _ _
      | exact pat_Match.mono _ _ _ _ _
      | exact pat_Right.mono _ _ _ _
      | exact LeO.none _
      | refine LeO.ite ?_ ?_
      | refine LeO.bind ?_ (fun _ => ?_)
theorem dragomanlaw05_PatJoins.mono : ∀ a0 a1 a2 a3 a4 a5 a6 k, LeO (dragomanlaw05_PatJoins.f k a0 a1 a2 a3 a4 a5 a6) (dragomanlaw05_PatJoins.f (k + 1) a0 a1 a2 a3 a4 a5 a6) := by
  intro a0 a1 a2 a3 a4 a5 a6 k
  obtain ⟨ih0, ih1⟩ := dragomanlaw05_PatJoins.mono_l k
  unfold dragomanlaw05_PatJoins.f
  repeat' first
      | (with_reducible exact ih0 _ _ _ _ _ _ _ _ _ _ _ _)
      | (with_reducible exact ih1 _ _ _ _ _ _ _ _ _ _ _ _ _ _)
      | (with_reducible exact dragomanlaw05_alive.mono _)
      | (with_reducible exact dragomanref05_Great.mono _ _ _ _)
      | (with_reducible exact pat_Match.mono _ _ _ _ _)
      | (with_reducible exact pat_Right.mono _ _ _ _)
      | (with_reducible exact LeO.refl _)
      | (with_reducible exact LeO.none _)
      | (with_reducible refine LeO.ite ?_ ?_)
      | (with_reducible refine LeO.bind ?_ (fun _ => ?_))
      | exact ih0 _ _ _ _ _ _ _ _ _ _ _ _
      | exact ih1 _ _ _ _ _ _ _ _ _ _ _ _ _ _
      | exact dragomanlaw05_alive.mono _
      | exact dragomanref05_Great.mono _ _ _ _
      | exact pat_Match.mono _ _ _ _ _
      | exact pat_Right.mono _ _ _ _
      | exact LeO.none _
      | refine LeO.ite ?_ ?_
      | refine LeO.bind ?_ (fun _ => ?_)
def dragomanlaw05_PatJoins.T11 : Bool × List (List Nat × List Nat) := (true, [([], []), ([0], [0]), ([1], [1]), ([1], [1]), ([1], [1]), ([3, 4, 1], [1, 3, 4]), ([2, 5, 1, 1], [1, 2, 5]), ([6, 6, 1], [1, 6]), ([7], [7]), ([7], [7]), ([7], [7]), ([9, 10, 7], [7, 9, 10]), ([8, 11, 7, 7], [7, 8, 11]), ([7, 12, 1], [1, 7, 12]), ([1, 13], [1, 13]), ([14, 12, 0, 1, 2, 3, 4, 5, 6, 7, 8, 9, 10, 11, 12, 13, 14], [0, 14])])
def dragomanlaw05_PatJoins.B11 : List Nat := [0, 1, 3, 3, 3, 27, 63, 127, 255, 255, 255, 1791, 4095, 8191, 16383, 32767]
theorem dragomanlaw05_PatJoins.tab11 : rtab .any (opsOf Try.f5 11) = dragomanlaw05_PatJoins.T11 := by kernel_rfl
theorem dragomanlaw05_PatJoins.bits11 : waitsOk dragomanlaw05_PatJoins.T11.2 dragomanlaw05_PatJoins.B11 = true := by kernel_rfl
def dragomanlaw05_PatJoins.T13 : Bool × List (List Nat × List Nat) := (true, [([], []), ([], []), ([0, 1], [0, 1]), ([], []), ([2, 3], [2, 3]), ([4, 2], [4]), ([5], [5]), ([5], [5]), ([6, 7, 5, 5], [5, 6, 7]), ([5], [5]), ([5], [5]), ([9, 10, 8, 5], [5, 9, 10]), ([11, 11, 5], [5, 11]), ([12], [12]), ([12], [12]), ([13, 14, 12, 12], [12, 13, 14]), ([12, 15, 5], [5, 12, 15]), ([8, 16, 5], [5, 8, 16]), ([5, 17], [5, 17]), ([18, 15, 0, 1, 2, 3, 4, 5, 6, 7, 8, 9, 10, 11, 12, 13, 14, 15, 16, 17, 18], [18])])
def dragomanlaw05_PatJoins.B13 : List Nat := [0, 0, 3, 0, 15, 31, 63, 63, 255, 63, 63, 2047, 4095, 8191, 8191, 32767, 65535, 131071, 262143, 524287]
theorem dragomanlaw05_PatJoins.tab13 : rtab .any (opsOf Try.f5 13) = dragomanlaw05_PatJoins.T13 := by kernel_rfl
theorem dragomanlaw05_PatJoins.bits13 : waitsOk dragomanlaw05_PatJoins.T13.2 dragomanlaw05_PatJoins.B13 = true := by kernel_rfl
set_option maxHeartbeats 8000000 in
set_option maxRecDepth 100000 in
theorem dragomanlaw05_PatJoins.calls (k : Nat) (a0_0 : Int) (P0_1_ : Nat → Prop) (A0_1 : Option Addr) (c0_1 : Nat) (l0_1 : List (S66)) (P0_2_ : Nat → Prop) (A0_2 : Option Addr) (c0_2 : Nat) (l0_2 : List (S25)) (a1_0 : Int) (P1_1_ : Nat → Prop) (A1_1 : Option Addr) (c1_1 : Nat) (l1_1 : List (S66)) (P1_2_ : Nat → Prop) (A1_2 : Option Addr) (c1_2 : Nat) (l1_2 : List (S25)) (A2 : Option Addr) (c2 : Nat) (l2 : List Int) (r : Bool) (w : World) (hs0_1 : Kd.V k66 66 w w.heap.size (fun k_ => P0_1_ k_) (.slice A0_1 l0_1.length c0_1) l0_1) (hs0_2 : Kd.V k25 25 w w.heap.size (fun k_ => P0_2_ k_) (.slice A0_2 l0_2.length c0_2) l0_2) (hs1_1 : Kd.V k66 66 w w.heap.size (fun k_ => P1_1_ k_) (.slice A1_1 l1_1.length c1_1) l1_1) (hs1_2 : Kd.V k25 25 w w.heap.size (fun k_ => P1_2_ k_) (.slice A1_2 l1_2.length c1_2) l1_2) (hr2 : Kd.C (Kd.int .u32) w A2 l2.length l2) (hc2 : l2.length ≤ c2) (h : dragomanlaw05_PatJoins.f k a0_0 l0_1 l0_2 a1_0 l1_1 l1_2 l2 = some r) :
    Calls Try.prog 5 #[.agg #[.int .i64 a0_0, .slice A0_1 l0_1.length c0_1, .slice A0_2 l0_2.length c0_2], .agg #[.int .i64 a1_0, .slice A1_1 l1_1.length c1_1, .slice A1_2 l1_2.length c1_2], .slice A2 l2.length c2] w fun e w' => e = .returned (.bool r) ∧ Below w.heap.size w w' := by
  have hu25 := Try.underlying25
  have HO0_1 := Aside0.mk (show Kd.V k66 66 w w.heap.size (fun k_ => ((P0_1_ k_ ∨ P0_2_ k_ ∨ P1_1_ k_ ∨ P1_2_ k_) ∨ w.heap.size ≤ k_)) (.slice A0_1 l0_1.length c0_1) l0_1 from Kd.V_mono hs0_1 (fun k_ hk => .inl (.inl hk)))
  have HO0_2 := Aside0.mk (show Kd.V k25 25 w w.heap.size (fun k_ => ((P0_1_ k_ ∨ P0_2_ k_ ∨ P1_1_ k_ ∨ P1_2_ k_) ∨ w.heap.size ≤ k_)) (.slice A0_2 l0_2.length c0_2) l0_2 from Kd.V_mono hs0_2 (fun k_ hk => .inl (.inr (.inl hk))))
  have HO1_1 := Aside0.mk (show Kd.V k66 66 w w.heap.size (fun k_ => ((P0_1_ k_ ∨ P0_2_ k_ ∨ P1_1_ k_ ∨ P1_2_ k_) ∨ w.heap.size ≤ k_)) (.slice A1_1 l1_1.length c1_1) l1_1 from Kd.V_mono hs1_1 (fun k_ hk => .inl (.inr (.inr (.inl hk)))))
  have HO1_2 := Aside0.mk (show Kd.V k25 25 w w.heap.size (fun k_ => ((P0_1_ k_ ∨ P0_2_ k_ ∨ P1_1_ k_ ∨ P1_2_ k_) ∨ w.heap.size ≤ k_)) (.slice A1_2 l1_2.length c1_2) l1_2 from Kd.V_mono hs1_2 (fun k_ hk => .inl (.inr (.inr (.inr hk)))))
  have HR2 := Aside0.mk hr2
  have HC2 := Aside0.mk hc2
  clear hr2 hc2
  have HB := Aside0.mk (Below.refl w.heap.size w)
  have H : ((dragomanlaw05_alive.f k).bind fun t415 => (if t415 = true then ((some (([(⟨a0_0, l0_1, l0_2⟩ : S25), (⟨a1_0, l1_1, l1_2⟩ : S25)] : List (S25)) : List (S25))).bind fun y416 => ((some (([(⟨a0_0, l0_1, l0_2⟩ : S25), (⟨a1_0, l1_1, l1_2⟩ : S25)] : List (S25)) : List (S25))).bind fun y420 => ((dragomanref05_Great.f k 2 ([] : List (S66)) y416).bind fun t424 => (if t424 = true then (dragomanlaw05_PatJoins.j0 k l2 true a0_0 l0_1 l0_2 a1_0 l1_1 l1_2 2 y416 3 y420) else (if (l2.length : Int) > 30 then (dragomanlaw05_PatJoins.j0 k l2 true a0_0 l0_1 l0_2 a1_0 l1_1 l1_2 2 y416 3 y420) else ((pat_Right.f k 2 ([] : List (S66)) y416).bind fun t425 => (dragomanlaw05_PatJoins.j0 k l2 (!t425) a0_0 l0_1 l0_2 a1_0 l1_1 l1_2 2 y416 3 y420))))))) else (none))) = some r := h
  clear h
  replace H := Option.bind_eq_some_iff.mp H
  obtain ⟨t415, A40, H⟩ := H
  replace H : (if t415 = true then ((some (([(⟨a0_0, l0_1, l0_2⟩ : S25), (⟨a1_0, l1_1, l1_2⟩ : S25)] : List (S25)) : List (S25))).bind fun y416 => ((some (([(⟨a0_0, l0_1, l0_2⟩ : S25), (⟨a1_0, l1_1, l1_2⟩ : S25)] : List (S25)) : List (S25))).bind fun y420 => ((dragomanref05_Great.f k 2 ([] : List (S66)) y416).bind fun t424 => (if t424 = true then (dragomanlaw05_PatJoins.j0 k l2 true a0_0 l0_1 l0_2 a1_0 l1_1 l1_2 2 y416 3 y420) else (if (l2.length : Int) > 30 then (dragomanlaw05_PatJoins.j0 k l2 true a0_0 l0_1 l0_2 a1_0 l1_1 l1_2 2 y416 3 y420) else ((pat_Right.f k 2 ([] : List (S66)) y416).bind fun t425 => (dragomanlaw05_PatJoins.j0 k l2 (!t425) a0_0 l0_1 l0_2 a1_0 l1_1 l1_2 2 y416 3 y420))))))) else (none)) = some r := H
  have A4 := Aside0.mk A40
  clear A40
  by_cases c5 : t415 = true
  · subst c5
    have H1 : ((some (([(⟨a0_0, l0_1, l0_2⟩ : S25), (⟨a1_0, l1_1, l1_2⟩ : S25)] : List (S25)) : List (S25))).bind fun y416 => ((some (([(⟨a0_0, l0_1, l0_2⟩ : S25), (⟨a1_0, l1_1, l1_2⟩ : S25)] : List (S25)) : List (S25))).bind fun y420 => ((dragomanref05_Great.f k 2 ([] : List (S66)) y416).bind fun t424 => (if t424 = true then (dragomanlaw05_PatJoins.j0 k l2 true a0_0 l0_1 l0_2 a1_0 l1_1 l1_2 2 y416 3 y420) else (if (l2.length : Int) > 30 then (dragomanlaw05_PatJoins.j0 k l2 true a0_0 l0_1 l0_2 a1_0 l1_1 l1_2 2 y416 3 y420) else ((pat_Right.f k 2 ([] : List (S66)) y416).bind fun t425 => (dragomanlaw05_PatJoins.j0 k l2 (!t425) a0_0 l0_1 l0_2 a1_0 l1_1 l1_2 2 y416 3 y420))))))) = some r := by rw [if_pos rfl] at H; exact H
    clear H
    have H := H1
    clear H1
    obtain ⟨y416, hy416⟩ : ∃ y_ : List (S25), y_ = (([(⟨a0_0, l0_1, l0_2⟩ : S25), (⟨a1_0, l1_1, l1_2⟩ : S25)] : List (S25))) := ⟨_, rfl⟩
    replace H : ((some (([(⟨a0_0, l0_1, l0_2⟩ : S25), (⟨a1_0, l1_1, l1_2⟩ : S25)] : List (S25)) : List (S25))).bind fun y420 => ((dragomanref05_Great.f k 2 ([] : List (S66)) y416).bind fun t424 => (if t424 = true then (dragomanlaw05_PatJoins.j0 k l2 true a0_0 l0_1 l0_2 a1_0 l1_1 l1_2 2 y416 3 y420) else (if (l2.length : Int) > 30 then (dragomanlaw05_PatJoins.j0 k l2 true a0_0 l0_1 l0_2 a1_0 l1_1 l1_2 2 y416 3 y420) else ((pat_Right.f k 2 ([] : List (S66)) y416).bind fun t425 => (dragomanlaw05_PatJoins.j0 k l2 (!t425) a0_0 l0_1 l0_2 a1_0 l1_1 l1_2 2 y416 3 y420)))))) = some r := by first | (rw [hy416]; with_reducible exact H) | (have H2_ := (Option.bind_some _ _).symm.trans H; rw [hy416]; with_reducible exact H2_) | (have H2_ := (Option.bind_some _ _).symm.trans H; with_reducible exact H2_) | with_reducible exact H | (rw [hy416]; exact H) | exact H
    have Ny416 := Aside0.mk hy416
    clear hy416
    obtain ⟨y420, hy420⟩ : ∃ y_ : List (S25), y_ = (([(⟨a0_0, l0_1, l0_2⟩ : S25), (⟨a1_0, l1_1, l1_2⟩ : S25)] : List (S25))) := ⟨_, rfl⟩
    replace H : ((dragomanref05_Great.f k 2 ([] : List (S66)) y416).bind fun t424 => (if t424 = true then (dragomanlaw05_PatJoins.j0 k l2 true a0_0 l0_1 l0_2 a1_0 l1_1 l1_2 2 y416 3 y420) else (if (l2.length : Int) > 30 then (dragomanlaw05_PatJoins.j0 k l2 true a0_0 l0_1 l0_2 a1_0 l1_1 l1_2 2 y416 3 y420) else ((pat_Right.f k 2 ([] : List (S66)) y416).bind fun t425 => (dragomanlaw05_PatJoins.j0 k l2 (!t425) a0_0 l0_1 l0_2 a1_0 l1_1 l1_2 2 y416 3 y420))))) = some r := by first | (rw [hy420]; with_reducible exact H) | (have H2_ := (Option.bind_some _ _).symm.trans H; rw [hy420]; with_reducible exact H2_) | (have H2_ := (Option.bind_some _ _).symm.trans H; with_reducible exact H2_) | with_reducible exact H | (rw [hy420]; exact H) | exact H
    have Ny420 := Aside0.mk hy420
    clear hy420
    have HC6 := Aside0.mk H
    clear H
    go_enter Try.func5, Try.ntmps5
    go_upto_region 5 with (first | ((with_reducible refine gate_dst (N := 3) rfl ?_); (try (refine gate_guard (by rfl) ?_; dsimp only)); refine box_event ?hg (N := 3) ?hd (cs := #[.int .i64 a0_0, .slice A0_1 l0_1.length c0_1, .slice A0_2 l0_2.length c0_2]) (t := 25) ?hr ?_; (case hd => rfl); (case hg => rfl); (case hr => first | (go_simp; done) | (go_simp; rfl)); intro gb413 hg w7 hbox hb; have n0_ := Aside0.mk (Kd.V_below (Kd.V_elderB (by (with_reducible repeat (first | apply Kd.V_alloc | apply Kd.V_drewN | apply Kd.V_drew)); exact HO0_1.out) gb413 (Nat.le_of_eq hg.symm)) hb); have n1_ := Aside0.mk (Kd.V_below (Kd.V_elderB (by (with_reducible repeat (first | apply Kd.V_alloc | apply Kd.V_drewN | apply Kd.V_drew)); exact HO0_2.out) gb413 (Nat.le_of_eq hg.symm)) hb); have n2_ := Aside0.mk (Kd.V_below (Kd.V_elderB (by (with_reducible repeat (first | apply Kd.V_alloc | apply Kd.V_drewN | apply Kd.V_drew)); exact HO1_1.out) gb413 (Nat.le_of_eq hg.symm)) hb); have n3_ := Aside0.mk (Kd.V_below (Kd.V_elderB (by (with_reducible repeat (first | apply Kd.V_alloc | apply Kd.V_drewN | apply Kd.V_drew)); exact HO1_2.out) gb413 (Nat.le_of_eq hg.symm)) hb); have n4_ := Aside0.mk (below_step (by repeat (first | (with_reducible first | exact HB.out | apply below_alloc | apply pw_below_drewN | apply below_drew1) | exact HB.out)) hb); have n5_ := Aside0.mk (hbox); have n6_ := Aside0.mk ((by rw [hg]; exact (below_size (by repeat (first | (with_reducible first | exact HB.out | apply below_alloc | apply pw_below_drewN | apply below_drew1) | exact HB.out))) : w.heap.size ≤ gb413)); have n7_ := Aside0.mk ((by rw [hg]; exact (below_size (by repeat (first | (with_reducible first | exact HB.out | apply below_alloc | apply pw_below_drewN | apply below_drew1) | exact HB.out))) : w.heap.size ≤ gb413)); clear HO0_1; clear HO0_2; clear HO1_1; clear HO1_2; clear HB; have HO0_1 := n0_; have HO0_2 := n1_; have HO1_1 := n2_; have HO1_2 := n3_; have HB := n4_; have BK413 := n5_; have GW413 := n6_; have GE413 := n7_; clear n0_ n1_ n2_ n3_ n4_ n5_ n6_ n7_; clear hb hbox hg) | ((with_reducible refine gate_dst (N := 4) rfl ?_); (try (refine gate_guard (by rfl) ?_; dsimp only)); refine box_event ?hg (N := 4) ?hd (cs := #[.int .i64 a1_0, .slice A1_1 l1_1.length c1_1, .slice A1_2 l1_2.length c1_2]) (t := 25) ?hr ?_; (case hd => rfl); (case hg => rfl); (case hr => first | (go_simp; done) | (go_simp; rfl)); intro gb414 hg w8 hbox hb; have n0_ := Aside0.mk (Kd.V_below (Kd.V_elderB (by (with_reducible repeat (first | apply Kd.V_alloc | apply Kd.V_drewN | apply Kd.V_drew)); exact HO0_1.out) gb414 (Nat.le_of_eq hg.symm)) hb); have n1_ := Aside0.mk (Kd.V_below (Kd.V_elderB (by (with_reducible repeat (first | apply Kd.V_alloc | apply Kd.V_drewN | apply Kd.V_drew)); exact HO0_2.out) gb414 (Nat.le_of_eq hg.symm)) hb); have n2_ := Aside0.mk (Kd.V_below (Kd.V_elderB (by (with_reducible repeat (first | apply Kd.V_alloc | apply Kd.V_drewN | apply Kd.V_drew)); exact HO1_1.out) gb414 (Nat.le_of_eq hg.symm)) hb); have n3_ := Aside0.mk (Kd.V_below (Kd.V_elderB (by (with_reducible repeat (first | apply Kd.V_alloc | apply Kd.V_drewN | apply Kd.V_drew)); exact HO1_2.out) gb414 (Nat.le_of_eq hg.symm)) hb); have n4_ := Aside0.mk (blk_below (g := gb413) (o := .cells #[.int .i64 a0_0, .slice A0_1 l0_1.length c0_1, .slice A0_2 l0_2.length c0_2] 25 (0, 0)) (by (with_reducible repeat (first | refine blk_drewN ?_ _ | refine blk_drew ?_ | refine blk_alloc ?_ _)); exact BK413.out) hb); have n5_ := Aside0.mk (below_step (by repeat (first | (with_reducible first | exact HB.out | apply below_alloc | apply pw_below_drewN | apply below_drew1 | refine below_set ?_ GE413.out) | exact HB.out)) hb); have n6_ := Aside0.mk (hbox); have n7_ := Aside0.mk ((by rw [hg]; exact (below_size (by repeat (first | (with_reducible first | exact HB.out | apply below_alloc | apply pw_below_drewN | apply below_drew1 | refine below_set ?_ GE413.out) | exact HB.out))) : w.heap.size ≤ gb414)); have n8_ := Aside0.mk ((by rw [hg]; exact (below_size (by repeat (first | (with_reducible first | exact HB.out | apply below_alloc | apply pw_below_drewN | apply below_drew1 | refine below_set ?_ GE413.out) | exact HB.out))) : w.heap.size ≤ gb414)); have n9_ := Aside0.mk ((by rw [hg]; exact Nat.ne_of_lt (blk_lt (g := gb413) (o := .cells #[.int .i64 a0_0, .slice A0_1 l0_1.length c0_1, .slice A0_2 l0_2.length c0_2] 25 (0, 0)) (by (with_reducible repeat (first | refine blk_drewN ?_ _ | refine blk_drew ?_ | refine blk_alloc ?_ _)); exact BK413.out)) : gb413 ≠ gb414)); have n10_ := Aside0.mk ((by rw [hg]; exact Nat.ne_of_gt (blk_lt (g := gb413) (o := .cells #[.int .i64 a0_0, .slice A0_1 l0_1.length c0_1, .slice A0_2 l0_2.length c0_2] 25 (0, 0)) (by (with_reducible repeat (first | refine blk_drewN ?_ _ | refine blk_drew ?_ | refine blk_alloc ?_ _)); exact BK413.out)) : gb414 ≠ gb413)); clear HO0_1; clear HO0_2; clear HO1_1; clear HO1_2; clear BK413; clear HB; have HO0_1 := n0_; have HO0_2 := n1_; have HO1_1 := n2_; have HO1_2 := n3_; have BK413 := n4_; have HB := n5_; have BK414 := n6_; have GW414 := n7_; have GE414 := n8_; have NB413_414 := n9_; have NB414_413 := n10_; clear n0_ n1_ n2_ n3_ n4_ n5_ n6_ n7_ n8_ n9_ n10_; clear hb hbox hg) | ((with_reducible refine gate_callee (f := 13) rfl ?_); refine goesL_ (some 11) rfl rfl Try.func13 (by kernel_rfl) rfl #[] rfl (by (try simp only [List.map_toArray, List.map_cons, List.map_nil]); first | done | rfl | (simp only [List.length_drop, List.length_take]; rfl)) ?_; (with_reducible refine (dragomanlaw05_alive.calls k  true _ A4.out).mono ?_); rintro e w9 ⟨rfl, hb⟩; refine ⟨_, rfl, ?_⟩; have n0_ := Aside0.mk (Kd.V_below (by (with_reducible repeat (first | apply Kd.V_alloc | apply Kd.V_drewN | apply Kd.V_drew)); exact HO0_1.out) hb); have n1_ := Aside0.mk (Kd.V_below (by (with_reducible repeat (first | apply Kd.V_alloc | apply Kd.V_drewN | apply Kd.V_drew)); exact HO0_2.out) hb); have n2_ := Aside0.mk (Kd.V_below (by (with_reducible repeat (first | apply Kd.V_alloc | apply Kd.V_drewN | apply Kd.V_drew)); exact HO1_1.out) hb); have n3_ := Aside0.mk (Kd.V_below (by (with_reducible repeat (first | apply Kd.V_alloc | apply Kd.V_drewN | apply Kd.V_drew)); exact HO1_2.out) hb); have n4_ := Aside0.mk (blk_below (g := gb413) (o := .cells #[.int .i64 a0_0, .slice A0_1 l0_1.length c0_1, .slice A0_2 l0_2.length c0_2] 25 (0, 0)) (by (with_reducible repeat (first | refine blk_drewN ?_ _ | refine blk_drew ?_ | refine blk_alloc ?_ _)); exact BK413.out) hb); have n5_ := Aside0.mk (blk_below (g := gb414) (o := .cells #[.int .i64 a1_0, .slice A1_1 l1_1.length c1_1, .slice A1_2 l1_2.length c1_2] 25 (0, 0)) (by (with_reducible repeat (first | refine blk_drewN ?_ _ | refine blk_drew ?_ | refine blk_alloc ?_ _)); exact BK414.out) hb); have n6_ := Aside0.mk (below_step (by repeat (first | (with_reducible first | exact HB.out | apply below_alloc | apply pw_below_drewN | apply below_drew1 | refine below_set ?_ GE413.out | refine below_set ?_ GE414.out) | exact HB.out)) hb); clear HO0_1; clear HO0_2; clear HO1_1; clear HO1_2; clear BK413; clear BK414; clear HB; have HO0_1 := n0_; have HO0_2 := n1_; have HO1_1 := n2_; have HO1_2 := n3_; have BK413 := n4_; have BK414 := n5_; have HB := n6_; clear n0_ n1_ n2_ n3_ n4_ n5_ n6_; (try clear hb); (try clear hb2); (try clear hk); (try clear hi); have hnb10 := NB413_414.out; have hnc10 := NB414_413.out; have hcz11_0 : w9.cell? ⟨gb413, 0, none⟩ = some (.int .i64 a0_0) := (blk_cell BK413.out 0).trans rfl; have hcz11_1 : w9.cell? ⟨gb413, 1, none⟩ = some (.slice A0_1 l0_1.length c0_1) := (blk_cell BK413.out 1).trans rfl; have hcz11_2 : w9.cell? ⟨gb413, 2, none⟩ = some (.slice A0_2 l0_2.length c0_2) := (blk_cell BK413.out 2).trans rfl; have hfz11_0 := blk_frozen BK413.out 0; have hfz11_1 := blk_frozen BK413.out 1; have hfz11_2 := blk_frozen BK413.out 2; have hcz12_0 : w9.cell? ⟨gb414, 0, none⟩ = some (.int .i64 a1_0) := (blk_cell BK414.out 0).trans rfl; have hcz12_1 : w9.cell? ⟨gb414, 1, none⟩ = some (.slice A1_1 l1_1.length c1_1) := (blk_cell BK414.out 1).trans rfl; have hcz12_2 : w9.cell? ⟨gb414, 2, none⟩ = some (.slice A1_2 l1_2.length c1_2) := (blk_cell BK414.out 2).trans rfl; have hfz12_0 := blk_frozen BK414.out 0; have hfz12_1 := blk_frozen BK414.out 1; have hfz12_2 := blk_frozen BK414.out 2) | ((with_reducible refine gate_dst (N := 15) rfl ?_); (try (refine gate_guard (by rfl) ?_; dsimp only)); refine Kd.N_lit k25 _ 25 ?hg (N' := 15) ?hd (xs := ([(⟨a0_0, l0_1, l0_2⟩ : S25), (⟨a1_0, l1_1, l1_2⟩ : S25)] : List (S25))) (inner := [.int .i64 a0_0, .slice A0_1 l0_1.length c0_1, .slice A0_2 l0_2.length c0_2, .int .i64 a1_0, .slice A1_1 l1_1.length c1_1, .slice A1_2 l1_2.length c1_2]) (ok := (fun k_ => ((P0_1_ k_ ∨ P0_2_ k_ ∨ P1_1_ k_ ∨ P1_2_ k_) ∨ w.heap.size ≤ k_) ∧ k_ ≠ gb413 ∧ k_ ≠ gb414)) (okp := (fun k_ => ((P0_1_ k_ ∨ P0_2_ k_ ∨ P1_1_ k_ ∨ P1_2_ k_) ∨ w.heap.size ≤ k_) ∧ k_ ≠ gb413 ∧ k_ ≠ gb414)) ?hr ?hp (fun _ hk => hk) ((show ∀ k_, w9.heap.size ≤ k_ → (fun k_ => ((P0_1_ k_ ∨ P0_2_ k_ ∨ P1_1_ k_ ∨ P1_2_ k_) ∨ w.heap.size ≤ k_) ∧ k_ ≠ gb413 ∧ k_ ≠ gb414) k_ from fun k_ hk => ⟨(.inr (Nat.le_trans (below_size (by repeat (first | (with_reducible first | exact HB.out | apply below_alloc | apply pw_below_drewN | apply below_drew1 | refine below_set ?_ GE413.out | refine below_set ?_ GE414.out) | exact HB.out))) hk)), Kd.freshB (g := gb413) (o := .cells #[.int .i64 a0_0, .slice A0_1 l0_1.length c0_1, .slice A0_2 l0_2.length c0_2] 25 (0, 0)) (by (with_reducible repeat (first | refine blk_drewN ?_ _ | refine blk_drew ?_ | refine blk_alloc ?_ _)); exact BK413.out) k_ hk, Kd.freshB (g := gb414) (o := .cells #[.int .i64 a1_0, .slice A1_1 l1_1.length c1_1, .slice A1_2 l1_2.length c1_2] 25 (0, 0)) (by (with_reducible repeat (first | refine blk_drewN ?_ _ | refine blk_drew ?_ | refine blk_alloc ?_ _)); exact BK414.out) k_ hk⟩) _ (Nat.le_refl _)) (Below.refl _ _) (Nat.le_refl _) (by simp) ?_; (case hd => rfl); (case hg => rfl); (case hr => first | (go_simp; done) | (go_simp; rfl)); (case hp => exact (Reps.c3 (show Kd.FK k25 _ _ (⟨a0_0, l0_1, l0_2⟩ : S25) [.int .i64 a0_0, .slice A0_1 l0_1.length c0_1, .slice A0_2 l0_2.length c0_2] from (k25_mkF _ _ (⟨a0_0, l0_1, l0_2⟩ : S25) (Kd.V_reads' (Kd.V_mono (ok' := (fun k_ => ((P0_1_ k_ ∨ P0_2_ k_ ∨ P1_1_ k_ ∨ P1_2_ k_) ∨ w.heap.size ≤ k_) ∧ k_ ≠ gb413 ∧ k_ ≠ gb414)) (HO0_1.out) (fun k_ hk => ⟨hk.1.1, ⟨hk.1.2, hk.2⟩⟩))).2.1 (Kd.V_F (Kd.V_mono (ok' := (fun k_ => ((P0_1_ k_ ∨ P0_2_ k_ ∨ P1_1_ k_ ∨ P1_2_ k_) ∨ w.heap.size ≤ k_) ∧ k_ ≠ gb413 ∧ k_ ≠ gb414)) (HO0_1.out) (fun k_ hk => ⟨hk.1.1, ⟨hk.1.2, hk.2⟩⟩))) (Kd.V_reads' (Kd.V_mono (ok' := (fun k_ => ((P0_1_ k_ ∨ P0_2_ k_ ∨ P1_1_ k_ ∨ P1_2_ k_) ∨ w.heap.size ≤ k_) ∧ k_ ≠ gb413 ∧ k_ ≠ gb414)) (HO0_2.out) (fun k_ hk => ⟨hk.1.1, ⟨hk.1.2, hk.2⟩⟩))).2.1 (Kd.V_F (Kd.V_mono (ok' := (fun k_ => ((P0_1_ k_ ∨ P0_2_ k_ ∨ P1_1_ k_ ∨ P1_2_ k_) ∨ w.heap.size ≤ k_) ∧ k_ ≠ gb413 ∧ k_ ≠ gb414)) (HO0_2.out) (fun k_ hk => ⟨hk.1.1, ⟨hk.1.2, hk.2⟩⟩))))) (Reps.c3 (show Kd.FK k25 _ _ (⟨a1_0, l1_1, l1_2⟩ : S25) [.int .i64 a1_0, .slice A1_1 l1_1.length c1_1, .slice A1_2 l1_2.length c1_2] from (k25_mkF _ _ (⟨a1_0, l1_1, l1_2⟩ : S25) (Kd.V_reads' (Kd.V_mono (ok' := (fun k_ => ((P0_1_ k_ ∨ P0_2_ k_ ∨ P1_1_ k_ ∨ P1_2_ k_) ∨ w.heap.size ≤ k_) ∧ k_ ≠ gb413 ∧ k_ ≠ gb414)) (HO1_1.out) (fun k_ hk => ⟨hk.1.1, ⟨hk.1.2, hk.2⟩⟩))).2.1 (Kd.V_F (Kd.V_mono (ok' := (fun k_ => ((P0_1_ k_ ∨ P0_2_ k_ ∨ P1_1_ k_ ∨ P1_2_ k_) ∨ w.heap.size ≤ k_) ∧ k_ ≠ gb413 ∧ k_ ≠ gb414)) (HO1_1.out) (fun k_ hk => ⟨hk.1.1, ⟨hk.1.2, hk.2⟩⟩))) (Kd.V_reads' (Kd.V_mono (ok' := (fun k_ => ((P0_1_ k_ ∨ P0_2_ k_ ∨ P1_1_ k_ ∨ P1_2_ k_) ∨ w.heap.size ≤ k_) ∧ k_ ≠ gb413 ∧ k_ ≠ gb414)) (HO1_2.out) (fun k_ hk => ⟨hk.1.1, ⟨hk.1.2, hk.2⟩⟩))).2.1 (Kd.V_F (Kd.V_mono (ok' := (fun k_ => ((P0_1_ k_ ∨ P0_2_ k_ ∨ P1_1_ k_ ∨ P1_2_ k_) ∨ w.heap.size ≤ k_) ∧ k_ ≠ gb413 ∧ k_ ≠ gb414)) (HO1_2.out) (fun k_ hk => ⟨hk.1.1, ⟨hk.1.2, hk.2⟩⟩))))) (Reps.none _ _)))); intro v417 w13 ho14 hb hg_ hnew_; clear hg_ hnew_; (first | rw [← Ny416.out] at ho14 | (simp only [Int.reduceToNat] at ho14; rw [← Ny416.out] at ho14)); have n0_ := Aside0.mk (Kd.V_elder' (by (with_reducible repeat (first | apply Kd.V_alloc | apply Kd.V_drewN | apply Kd.V_drew)); exact HO0_1.out) (Kd.N_base ho14) hb); have n1_ := Aside0.mk (Kd.V_elder' (by (with_reducible repeat (first | apply Kd.V_alloc | apply Kd.V_drewN | apply Kd.V_drew)); exact HO0_2.out) (Kd.N_base ho14) hb); have n2_ := Aside0.mk (Kd.V_elder' (by (with_reducible repeat (first | apply Kd.V_alloc | apply Kd.V_drewN | apply Kd.V_drew)); exact HO1_1.out) (Kd.N_base ho14) hb); have n3_ := Aside0.mk (Kd.V_elder' (by (with_reducible repeat (first | apply Kd.V_alloc | apply Kd.V_drewN | apply Kd.V_drew)); exact HO1_2.out) (Kd.N_base ho14) hb); have n4_ := Aside0.mk (Kd.N_lower ho14 (below_size (by repeat (first | (with_reducible first | exact HB.out | apply below_alloc | apply pw_below_drewN | apply below_drew1 | refine below_set ?_ GE413.out | refine below_set ?_ GE414.out) | exact HB.out)))); have n5_ := Aside0.mk (blk_below (g := gb413) (o := .cells #[.int .i64 a0_0, .slice A0_1 l0_1.length c0_1, .slice A0_2 l0_2.length c0_2] 25 (0, 0)) (by (with_reducible repeat (first | refine blk_drewN ?_ _ | refine blk_drew ?_ | refine blk_alloc ?_ _)); exact BK413.out) hb); have n6_ := Aside0.mk (blk_below (g := gb414) (o := .cells #[.int .i64 a1_0, .slice A1_1 l1_1.length c1_1, .slice A1_2 l1_2.length c1_2] 25 (0, 0)) (by (with_reducible repeat (first | refine blk_drewN ?_ _ | refine blk_drew ?_ | refine blk_alloc ?_ _)); exact BK414.out) hb); have n7_ := Aside0.mk (below_step (by repeat (first | (with_reducible first | exact HB.out | apply below_alloc | apply pw_below_drewN | apply below_drew1 | refine below_set ?_ GE413.out | refine below_set ?_ GE414.out) | exact HB.out)) hb); clear HO0_1; clear HO0_2; clear HO1_1; clear HO1_2; clear BK413; clear BK414; clear HB; have HO0_1 := n0_; have HO0_2 := n1_; have HO1_1 := n2_; have HO1_2 := n3_; have HO418 := n4_; have BK413 := n5_; have BK414 := n6_; have HB := n7_; clear n0_ n1_ n2_ n3_ n4_ n5_ n6_ n7_; clear hb ho14; obtain ⟨Ao15, co15, eo15⟩ := Kd.N_slice HO418.out; subst eo15) | ((with_reducible refine gate_dst (N := 7) rfl ?_); (try (refine gate_guard (by rfl) ?_; dsimp only)); refine box_event ?hg (N := 7) ?hd (cs := #[.int .i64 0, .slice none 0 0, .slice none 0 0]) (t := 25) ?hr ?_; (case hd => rfl); (case hg => rfl); (case hr => first | (go_simp; done) | (go_simp; rfl)); intro gb419 hg w16 hbox hb; have n0_ := Aside0.mk (Kd.V_below (Kd.V_elderB (by (with_reducible repeat (first | apply Kd.V_alloc | apply Kd.V_drewN | apply Kd.V_drew)); exact HO0_1.out) gb419 (Nat.le_of_eq hg.symm)) hb); have n1_ := Aside0.mk (Kd.V_below (Kd.V_elderB (by (with_reducible repeat (first | apply Kd.V_alloc | apply Kd.V_drewN | apply Kd.V_drew)); exact HO0_2.out) gb419 (Nat.le_of_eq hg.symm)) hb); have n2_ := Aside0.mk (Kd.V_below (Kd.V_elderB (by (with_reducible repeat (first | apply Kd.V_alloc | apply Kd.V_drewN | apply Kd.V_drew)); exact HO1_1.out) gb419 (Nat.le_of_eq hg.symm)) hb); have n3_ := Aside0.mk (Kd.V_below (Kd.V_elderB (by (with_reducible repeat (first | apply Kd.V_alloc | apply Kd.V_drewN | apply Kd.V_drew)); exact HO1_2.out) gb419 (Nat.le_of_eq hg.symm)) hb); have n4_ := Aside0.mk (Kd.N_below (Kd.N_elderB (by (with_reducible repeat (first | apply Kd.N_alloc | apply Kd.N_drewN | apply Kd.N_drew)); exact HO418.out) gb419 (Nat.le_of_eq hg.symm)) hb); have n5_ := Aside0.mk (blk_below (g := gb413) (o := .cells #[.int .i64 a0_0, .slice A0_1 l0_1.length c0_1, .slice A0_2 l0_2.length c0_2] 25 (0, 0)) (by (with_reducible repeat (first | refine blk_drewN ?_ _ | refine blk_drew ?_ | refine blk_alloc ?_ _)); exact BK413.out) hb); have n6_ := Aside0.mk (blk_below (g := gb414) (o := .cells #[.int .i64 a1_0, .slice A1_1 l1_1.length c1_1, .slice A1_2 l1_2.length c1_2] 25 (0, 0)) (by (with_reducible repeat (first | refine blk_drewN ?_ _ | refine blk_drew ?_ | refine blk_alloc ?_ _)); exact BK414.out) hb); have n7_ := Aside0.mk (below_step (by repeat (first | (with_reducible first | exact HB.out | apply below_alloc | apply pw_below_drewN | apply below_drew1 | refine below_set ?_ GE413.out | refine below_set ?_ GE414.out) | exact HB.out)) hb); have n8_ := Aside0.mk (hbox); have n9_ := Aside0.mk ((by rw [hg]; exact (below_size (by repeat (first | (with_reducible first | exact HB.out | apply below_alloc | apply pw_below_drewN | apply below_drew1 | refine below_set ?_ GE413.out | refine below_set ?_ GE414.out) | exact HB.out))) : w.heap.size ≤ gb419)); have n10_ := Aside0.mk ((by rw [hg]; exact (below_size (by repeat (first | (with_reducible first | exact HB.out | apply below_alloc | apply pw_below_drewN | apply below_drew1 | refine below_set ?_ GE413.out | refine below_set ?_ GE414.out) | exact HB.out))) : w.heap.size ≤ gb419)); have n11_ := Aside0.mk ((by rw [hg]; exact Nat.ne_of_lt (blk_lt (g := gb413) (o := .cells #[.int .i64 a0_0, .slice A0_1 l0_1.length c0_1, .slice A0_2 l0_2.length c0_2] 25 (0, 0)) (by (with_reducible repeat (first | refine blk_drewN ?_ _ | refine blk_drew ?_ | refine blk_alloc ?_ _)); exact BK413.out)) : gb413 ≠ gb419)); have n12_ := Aside0.mk ((by rw [hg]; exact Nat.ne_of_gt (blk_lt (g := gb413) (o := .cells #[.int .i64 a0_0, .slice A0_1 l0_1.length c0_1, .slice A0_2 l0_2.length c0_2] 25 (0, 0)) (by (with_reducible repeat (first | refine blk_drewN ?_ _ | refine blk_drew ?_ | refine blk_alloc ?_ _)); exact BK413.out)) : gb419 ≠ gb413)); have n13_ := Aside0.mk ((by rw [hg]; exact Nat.ne_of_lt (blk_lt (g := gb414) (o := .cells #[.int .i64 a1_0, .slice A1_1 l1_1.length c1_1, .slice A1_2 l1_2.length c1_2] 25 (0, 0)) (by (with_reducible repeat (first | refine blk_drewN ?_ _ | refine blk_drew ?_ | refine blk_alloc ?_ _)); exact BK414.out)) : gb414 ≠ gb419)); have n14_ := Aside0.mk ((by rw [hg]; exact Nat.ne_of_gt (blk_lt (g := gb414) (o := .cells #[.int .i64 a1_0, .slice A1_1 l1_1.length c1_1, .slice A1_2 l1_2.length c1_2] 25 (0, 0)) (by (with_reducible repeat (first | refine blk_drewN ?_ _ | refine blk_drew ?_ | refine blk_alloc ?_ _)); exact BK414.out)) : gb419 ≠ gb414)); clear HO0_1; clear HO0_2; clear HO1_1; clear HO1_2; clear HO418; clear BK413; clear BK414; clear HB; have HO0_1 := n0_; have HO0_2 := n1_; have HO1_1 := n2_; have HO1_2 := n3_; have HO418 := n4_; have BK413 := n5_; have BK414 := n6_; have HB := n7_; have BK419 := n8_; have GW419 := n9_; have GE419 := n10_; have NB413_419 := n11_; have NB419_413 := n12_; have NB414_419 := n13_; have NB419_414 := n14_; clear n0_ n1_ n2_ n3_ n4_ n5_ n6_ n7_ n8_ n9_ n10_ n11_ n12_ n13_ n14_; clear hb hbox hg; have hnb17 := NB419_413.out; have hnc17 := NB413_419.out; have hnb18 := NB419_414.out; have hnc18 := NB414_419.out; have hcz19_0 : w16.cell? ⟨gb419, 0, none⟩ = some (.int .i64 0) := (blk_cell BK419.out 0).trans rfl; have hcz19_1 : w16.cell? ⟨gb419, 1, none⟩ = some (.slice none 0 0) := (blk_cell BK419.out 1).trans rfl; have hcz19_2 : w16.cell? ⟨gb419, 2, none⟩ = some (.slice none 0 0) := (blk_cell BK419.out 2).trans rfl; have hfz19_0 := blk_frozen BK419.out 0; have hfz19_1 := blk_frozen BK419.out 1; have hfz19_2 := blk_frozen BK419.out 2) | ((with_reducible refine gate_store (t := 25) (p := 7) rfl ?_); refine store_event (t := 25) (p := 7) (v := ?vo_w20) (w1 := (((w16.setCell ⟨gb419, 0, none⟩ (.int .i64 2)).setCell ⟨gb419, 1, none⟩ (.slice none 0 0)).setCell ⟨gb419, 2, none⟩ (.slice Ao15 y416.length co15))) ?hg ?ho ?hn ?hr ?_; (case ho => rfl); (case hg => rfl); (case hn => rfl); (case hr => first | (go_simp; done) | (go_simp; rfl)); intro w20 hw; have n0_ : Aside0 (Kd.V k66 66 w20 w.heap.size (fun k_ => ((P0_1_ k_ ∨ P0_2_ k_ ∨ P1_1_ k_ ∨ P1_2_ k_) ∨ w.heap.size ≤ k_) ∧ some k_ ≠ (.slice Ao15 y416.length co15 : Value).ownBlock ∧ k_ ≠ gb413 ∧ k_ ≠ gb414 ∧ k_ ≠ gb419) (.slice A0_1 l0_1.length c0_1) l0_1) := ⟨(by rw [hw]; exact (by (with_reducible repeat (first | apply Kd.V_alloc | apply Kd.V_drewN | apply Kd.V_drew)); exact Kd.V_mono (Kd.V_far (p := ⟨gb419, 2, none⟩) (Kd.V_far (p := ⟨gb419, 1, none⟩) (Kd.V_far (p := ⟨gb419, 0, none⟩) (Kd.V_mono HO0_1.out (fun k_ hk => (⟨hk, hk.2⟩ : _ ∧ k_ ≠ gb419))) (fun _ hk => hk.2) (.int .i64 2)) (fun _ hk => hk.2) (.slice none 0 0)) (fun _ hk => hk.2) (.slice Ao15 y416.length co15)) (fun _ hk => ⟨hk.1.1.1.1.1, ⟨hk.1.1.2, ⟨hk.1.1.1.1.2, ⟨hk.1.1.1.2, hk.1.2⟩⟩⟩⟩)))⟩; have n1_ : Aside0 (Kd.V k25 25 w20 w.heap.size (fun k_ => ((P0_1_ k_ ∨ P0_2_ k_ ∨ P1_1_ k_ ∨ P1_2_ k_) ∨ w.heap.size ≤ k_) ∧ some k_ ≠ (.slice Ao15 y416.length co15 : Value).ownBlock ∧ k_ ≠ gb413 ∧ k_ ≠ gb414 ∧ k_ ≠ gb419) (.slice A0_2 l0_2.length c0_2) l0_2) := ⟨(by rw [hw]; exact (by (with_reducible repeat (first | apply Kd.V_alloc | apply Kd.V_drewN | apply Kd.V_drew)); exact Kd.V_mono (Kd.V_far (p := ⟨gb419, 2, none⟩) (Kd.V_far (p := ⟨gb419, 1, none⟩) (Kd.V_far (p := ⟨gb419, 0, none⟩) (Kd.V_mono HO0_2.out (fun k_ hk => (⟨hk, hk.2⟩ : _ ∧ k_ ≠ gb419))) (fun _ hk => hk.2) (.int .i64 2)) (fun _ hk => hk.2) (.slice none 0 0)) (fun _ hk => hk.2) (.slice Ao15 y416.length co15)) (fun _ hk => ⟨hk.1.1.1.1.1, ⟨hk.1.1.2, ⟨hk.1.1.1.1.2, ⟨hk.1.1.1.2, hk.1.2⟩⟩⟩⟩)))⟩; have n2_ : Aside0 (Kd.V k66 66 w20 w.heap.size (fun k_ => ((P0_1_ k_ ∨ P0_2_ k_ ∨ P1_1_ k_ ∨ P1_2_ k_) ∨ w.heap.size ≤ k_) ∧ some k_ ≠ (.slice Ao15 y416.length co15 : Value).ownBlock ∧ k_ ≠ gb413 ∧ k_ ≠ gb414 ∧ k_ ≠ gb419) (.slice A1_1 l1_1.length c1_1) l1_1) := ⟨(by rw [hw]; exact (by (with_reducible repeat (first | apply Kd.V_alloc | apply Kd.V_drewN | apply Kd.V_drew)); exact Kd.V_mono (Kd.V_far (p := ⟨gb419, 2, none⟩) (Kd.V_far (p := ⟨gb419, 1, none⟩) (Kd.V_far (p := ⟨gb419, 0, none⟩) (Kd.V_mono HO1_1.out (fun k_ hk => (⟨hk, hk.2⟩ : _ ∧ k_ ≠ gb419))) (fun _ hk => hk.2) (.int .i64 2)) (fun _ hk => hk.2) (.slice none 0 0)) (fun _ hk => hk.2) (.slice Ao15 y416.length co15)) (fun _ hk => ⟨hk.1.1.1.1.1, ⟨hk.1.1.2, ⟨hk.1.1.1.1.2, ⟨hk.1.1.1.2, hk.1.2⟩⟩⟩⟩)))⟩; have n3_ : Aside0 (Kd.V k25 25 w20 w.heap.size (fun k_ => ((P0_1_ k_ ∨ P0_2_ k_ ∨ P1_1_ k_ ∨ P1_2_ k_) ∨ w.heap.size ≤ k_) ∧ some k_ ≠ (.slice Ao15 y416.length co15 : Value).ownBlock ∧ k_ ≠ gb413 ∧ k_ ≠ gb414 ∧ k_ ≠ gb419) (.slice A1_2 l1_2.length c1_2) l1_2) := ⟨(by rw [hw]; exact (by (with_reducible repeat (first | apply Kd.V_alloc | apply Kd.V_drewN | apply Kd.V_drew)); exact Kd.V_mono (Kd.V_far (p := ⟨gb419, 2, none⟩) (Kd.V_far (p := ⟨gb419, 1, none⟩) (Kd.V_far (p := ⟨gb419, 0, none⟩) (Kd.V_mono HO1_2.out (fun k_ hk => (⟨hk, hk.2⟩ : _ ∧ k_ ≠ gb419))) (fun _ hk => hk.2) (.int .i64 2)) (fun _ hk => hk.2) (.slice none 0 0)) (fun _ hk => hk.2) (.slice Ao15 y416.length co15)) (fun _ hk => ⟨hk.1.1.1.1.1, ⟨hk.1.1.2, ⟨hk.1.1.1.1.2, ⟨hk.1.1.1.2, hk.1.2⟩⟩⟩⟩)))⟩; have n4_ : Aside0 (Kd.N k25 25 w20 w.heap.size (fun k_ => ((P0_1_ k_ ∨ P0_2_ k_ ∨ P1_1_ k_ ∨ P1_2_ k_) ∨ w.heap.size ≤ k_) ∧ k_ ≠ gb413 ∧ k_ ≠ gb414 ∧ k_ ≠ gb419) (.slice Ao15 y416.length co15) y416) := ⟨(by rw [hw]; exact (by (with_reducible repeat (first | apply Kd.N_alloc | apply Kd.N_drewN | apply Kd.N_drew)); exact Kd.N_mono (Kd.N_far (p := ⟨gb419, 2, none⟩) (Kd.N_far (p := ⟨gb419, 1, none⟩) (Kd.N_far (p := ⟨gb419, 0, none⟩) (Kd.N_mono HO418.out (fun k_ hk => (⟨hk, hk.2⟩ : _ ∧ k_ ≠ gb419))) (fun _ hk => hk.2) (.int .i64 2)) (fun _ hk => hk.2) (.slice none 0 0)) (fun _ hk => hk.2) (.slice Ao15 y416.length co15)) (fun _ hk => ⟨hk.1.1.1, ⟨hk.1.1.2.1, ⟨hk.1.1.2.2, hk.1.2⟩⟩⟩)))⟩; have n5_ : Aside0 (w20.heap[gb413]? = some (.cells #[.int .i64 a0_0, .slice A0_1 l0_1.length c0_1, .slice A0_2 l0_2.length c0_2] 25 (0, 0))) := ⟨(by rw [hw]; exact (by (with_reducible repeat (first | refine blk_drewN ?_ _ | refine blk_drew ?_ | refine blk_alloc ?_ _)); refine blk_far ?_ NB413_419.out _; (with_reducible repeat (first | refine blk_drewN ?_ _ | refine blk_drew ?_ | refine blk_alloc ?_ _)); refine blk_far ?_ NB413_419.out _; (with_reducible repeat (first | refine blk_drewN ?_ _ | refine blk_drew ?_ | refine blk_alloc ?_ _)); refine blk_far ?_ NB413_419.out _; (with_reducible repeat (first | refine blk_drewN ?_ _ | refine blk_drew ?_ | refine blk_alloc ?_ _)); exact BK413.out))⟩; have n6_ : Aside0 (w20.heap[gb414]? = some (.cells #[.int .i64 a1_0, .slice A1_1 l1_1.length c1_1, .slice A1_2 l1_2.length c1_2] 25 (0, 0))) := ⟨(by rw [hw]; exact (by (with_reducible repeat (first | refine blk_drewN ?_ _ | refine blk_drew ?_ | refine blk_alloc ?_ _)); refine blk_far ?_ NB414_419.out _; (with_reducible repeat (first | refine blk_drewN ?_ _ | refine blk_drew ?_ | refine blk_alloc ?_ _)); refine blk_far ?_ NB414_419.out _; (with_reducible repeat (first | refine blk_drewN ?_ _ | refine blk_drew ?_ | refine blk_alloc ?_ _)); refine blk_far ?_ NB414_419.out _; (with_reducible repeat (first | refine blk_drewN ?_ _ | refine blk_drew ?_ | refine blk_alloc ?_ _)); exact BK414.out))⟩; have n7_ : Aside0 (w20.heap[gb419]? = some (.cells #[.int .i64 2, .slice none 0 0, .slice Ao15 y416.length co15] 25 (0, 0))) := ⟨(by rw [hw]; exact (by (with_reducible repeat (first | refine blk_drewN ?_ _ | refine blk_drew ?_ | refine blk_alloc ?_ _)); refine blk_put (cs := #[.int .i64 2, .slice none 0 0, .slice none 0 0]) ?_ 2 _ rfl; (with_reducible repeat (first | refine blk_drewN ?_ _ | refine blk_drew ?_ | refine blk_alloc ?_ _)); refine blk_put (cs := #[.int .i64 2, .slice none 0 0, .slice none 0 0]) ?_ 1 _ rfl; (with_reducible repeat (first | refine blk_drewN ?_ _ | refine blk_drew ?_ | refine blk_alloc ?_ _)); refine blk_put (cs := #[.int .i64 0, .slice none 0 0, .slice none 0 0]) ?_ 0 _ rfl; (with_reducible repeat (first | refine blk_drewN ?_ _ | refine blk_drew ?_ | refine blk_alloc ?_ _)); exact BK419.out))⟩; have n8_ : Aside0 (Below w.heap.size w w20) := ⟨(by rw [hw]; exact (by repeat (first | (with_reducible first | exact HB.out | apply below_alloc | apply pw_below_drewN | apply below_drew1 | refine below_set ?_ GE413.out | refine below_set ?_ GE414.out | refine below_set ?_ GE419.out) | exact HB.out)))⟩; clear hw; clear HO0_1; clear HO0_2; clear HO1_1; clear HO1_2; clear HO418; clear BK413; clear BK414; clear BK419; clear HB; have HO0_1 := n0_; have HO0_2 := n1_; have HO1_1 := n2_; have HO1_2 := n3_; have HO418 := n4_; have BK413 := n5_; have BK414 := n6_; have BK419 := n7_; have HB := n8_; clear n0_ n1_ n2_ n3_ n4_ n5_ n6_ n7_ n8_; have hcz21_0 : w20.cell? ⟨gb413, 0, none⟩ = some (.int .i64 a0_0) := (blk_cell BK413.out 0).trans rfl; have hcz21_1 : w20.cell? ⟨gb413, 1, none⟩ = some (.slice A0_1 l0_1.length c0_1) := (blk_cell BK413.out 1).trans rfl; have hcz21_2 : w20.cell? ⟨gb413, 2, none⟩ = some (.slice A0_2 l0_2.length c0_2) := (blk_cell BK413.out 2).trans rfl; have hfz21_0 := blk_frozen BK413.out 0; have hfz21_1 := blk_frozen BK413.out 1; have hfz21_2 := blk_frozen BK413.out 2; have hcz22_0 : w20.cell? ⟨gb414, 0, none⟩ = some (.int .i64 a1_0) := (blk_cell BK414.out 0).trans rfl; have hcz22_1 : w20.cell? ⟨gb414, 1, none⟩ = some (.slice A1_1 l1_1.length c1_1) := (blk_cell BK414.out 1).trans rfl; have hcz22_2 : w20.cell? ⟨gb414, 2, none⟩ = some (.slice A1_2 l1_2.length c1_2) := (blk_cell BK414.out 2).trans rfl; have hfz22_0 := blk_frozen BK414.out 0; have hfz22_1 := blk_frozen BK414.out 1; have hfz22_2 := blk_frozen BK414.out 2) | ((with_reducible refine gate_dst (N := 19) rfl ?_); (try (refine gate_guard (by rfl) ?_; dsimp only)); refine Kd.N_lit k25 _ 25 ?hg (N' := 19) ?hd (xs := ([(⟨a0_0, l0_1, l0_2⟩ : S25), (⟨a1_0, l1_1, l1_2⟩ : S25)] : List (S25))) (inner := [.int .i64 a0_0, .slice A0_1 l0_1.length c0_1, .slice A0_2 l0_2.length c0_2, .int .i64 a1_0, .slice A1_1 l1_1.length c1_1, .slice A1_2 l1_2.length c1_2]) (ok := (fun k_ => ((P0_1_ k_ ∨ P0_2_ k_ ∨ P1_1_ k_ ∨ P1_2_ k_) ∨ w.heap.size ≤ k_) ∧ some k_ ≠ (.slice Ao15 y416.length co15 : Value).ownBlock ∧ k_ ≠ gb413 ∧ k_ ≠ gb414 ∧ k_ ≠ gb419)) (okp := (fun k_ => ((P0_1_ k_ ∨ P0_2_ k_ ∨ P1_1_ k_ ∨ P1_2_ k_) ∨ w.heap.size ≤ k_) ∧ some k_ ≠ (.slice Ao15 y416.length co15 : Value).ownBlock ∧ k_ ≠ gb413 ∧ k_ ≠ gb414 ∧ k_ ≠ gb419)) ?hr ?hp (fun _ hk => hk) ((show ∀ k_, w20.heap.size ≤ k_ → (fun k_ => ((P0_1_ k_ ∨ P0_2_ k_ ∨ P1_1_ k_ ∨ P1_2_ k_) ∨ w.heap.size ≤ k_) ∧ some k_ ≠ (.slice Ao15 y416.length co15 : Value).ownBlock ∧ k_ ≠ gb413 ∧ k_ ≠ gb414 ∧ k_ ≠ gb419) k_ from fun k_ hk => ⟨(.inr (Nat.le_trans (below_size (by repeat (first | (with_reducible first | exact HB.out | apply below_alloc | apply pw_below_drewN | apply below_drew1 | refine below_set ?_ GE413.out | refine below_set ?_ GE414.out | refine below_set ?_ GE419.out) | exact HB.out))) hk)), Kd.fresh' (Kd.N_lt (by (with_reducible repeat (first | apply Kd.N_alloc | apply Kd.N_drewN | apply Kd.N_drew)); exact HO418.out)) k_ hk, Kd.freshB (g := gb413) (o := .cells #[.int .i64 a0_0, .slice A0_1 l0_1.length c0_1, .slice A0_2 l0_2.length c0_2] 25 (0, 0)) (by (with_reducible repeat (first | refine blk_drewN ?_ _ | refine blk_drew ?_ | refine blk_alloc ?_ _)); exact BK413.out) k_ hk, Kd.freshB (g := gb414) (o := .cells #[.int .i64 a1_0, .slice A1_1 l1_1.length c1_1, .slice A1_2 l1_2.length c1_2] 25 (0, 0)) (by (with_reducible repeat (first | refine blk_drewN ?_ _ | refine blk_drew ?_ | refine blk_alloc ?_ _)); exact BK414.out) k_ hk, Kd.freshB (g := gb419) (o := .cells #[.int .i64 2, .slice none 0 0, .slice Ao15 y416.length co15] 25 (0, 0)) (by (with_reducible repeat (first | refine blk_drewN ?_ _ | refine blk_drew ?_ | refine blk_alloc ?_ _)); exact BK419.out) k_ hk⟩) _ (Nat.le_refl _)) (Below.refl _ _) (Nat.le_refl _) (by simp) ?_; (case hd => rfl); (case hg => rfl); (case hr => first | (go_simp; done) | (go_simp; rfl)); (case hp => exact (Reps.c3 (show Kd.FK k25 _ _ (⟨a0_0, l0_1, l0_2⟩ : S25) [.int .i64 a0_0, .slice A0_1 l0_1.length c0_1, .slice A0_2 l0_2.length c0_2] from (k25_mkF _ _ (⟨a0_0, l0_1, l0_2⟩ : S25) (Kd.V_reads' (Kd.V_mono (ok' := (fun k_ => ((P0_1_ k_ ∨ P0_2_ k_ ∨ P1_1_ k_ ∨ P1_2_ k_) ∨ w.heap.size ≤ k_) ∧ some k_ ≠ (.slice Ao15 y416.length co15 : Value).ownBlock ∧ k_ ≠ gb413 ∧ k_ ≠ gb414 ∧ k_ ≠ gb419)) (HO0_1.out) (fun k_ hk => ⟨hk.1, ⟨hk.2.1, ⟨hk.2.2.1, ⟨hk.2.2.2.1, hk.2.2.2.2⟩⟩⟩⟩))).2.1 (Kd.V_F (Kd.V_mono (ok' := (fun k_ => ((P0_1_ k_ ∨ P0_2_ k_ ∨ P1_1_ k_ ∨ P1_2_ k_) ∨ w.heap.size ≤ k_) ∧ some k_ ≠ (.slice Ao15 y416.length co15 : Value).ownBlock ∧ k_ ≠ gb413 ∧ k_ ≠ gb414 ∧ k_ ≠ gb419)) (HO0_1.out) (fun k_ hk => ⟨hk.1, ⟨hk.2.1, ⟨hk.2.2.1, ⟨hk.2.2.2.1, hk.2.2.2.2⟩⟩⟩⟩))) (Kd.V_reads' (Kd.V_mono (ok' := (fun k_ => ((P0_1_ k_ ∨ P0_2_ k_ ∨ P1_1_ k_ ∨ P1_2_ k_) ∨ w.heap.size ≤ k_) ∧ some k_ ≠ (.slice Ao15 y416.length co15 : Value).ownBlock ∧ k_ ≠ gb413 ∧ k_ ≠ gb414 ∧ k_ ≠ gb419)) (HO0_2.out) (fun k_ hk => ⟨hk.1, ⟨hk.2.1, ⟨hk.2.2.1, ⟨hk.2.2.2.1, hk.2.2.2.2⟩⟩⟩⟩))).2.1 (Kd.V_F (Kd.V_mono (ok' := (fun k_ => ((P0_1_ k_ ∨ P0_2_ k_ ∨ P1_1_ k_ ∨ P1_2_ k_) ∨ w.heap.size ≤ k_) ∧ some k_ ≠ (.slice Ao15 y416.length co15 : Value).ownBlock ∧ k_ ≠ gb413 ∧ k_ ≠ gb414 ∧ k_ ≠ gb419)) (HO0_2.out) (fun k_ hk => ⟨hk.1, ⟨hk.2.1, ⟨hk.2.2.1, ⟨hk.2.2.2.1, hk.2.2.2.2⟩⟩⟩⟩))))) (Reps.c3 (show Kd.FK k25 _ _ (⟨a1_0, l1_1, l1_2⟩ : S25) [.int .i64 a1_0, .slice A1_1 l1_1.length c1_1, .slice A1_2 l1_2.length c1_2] from (k25_mkF _ _ (⟨a1_0, l1_1, l1_2⟩ : S25) (Kd.V_reads' (Kd.V_mono (ok' := (fun k_ => ((P0_1_ k_ ∨ P0_2_ k_ ∨ P1_1_ k_ ∨ P1_2_ k_) ∨ w.heap.size ≤ k_) ∧ some k_ ≠ (.slice Ao15 y416.length co15 : Value).ownBlock ∧ k_ ≠ gb413 ∧ k_ ≠ gb414 ∧ k_ ≠ gb419)) (HO1_1.out) (fun k_ hk => ⟨hk.1, ⟨hk.2.1, ⟨hk.2.2.1, ⟨hk.2.2.2.1, hk.2.2.2.2⟩⟩⟩⟩))).2.1 (Kd.V_F (Kd.V_mono (ok' := (fun k_ => ((P0_1_ k_ ∨ P0_2_ k_ ∨ P1_1_ k_ ∨ P1_2_ k_) ∨ w.heap.size ≤ k_) ∧ some k_ ≠ (.slice Ao15 y416.length co15 : Value).ownBlock ∧ k_ ≠ gb413 ∧ k_ ≠ gb414 ∧ k_ ≠ gb419)) (HO1_1.out) (fun k_ hk => ⟨hk.1, ⟨hk.2.1, ⟨hk.2.2.1, ⟨hk.2.2.2.1, hk.2.2.2.2⟩⟩⟩⟩))) (Kd.V_reads' (Kd.V_mono (ok' := (fun k_ => ((P0_1_ k_ ∨ P0_2_ k_ ∨ P1_1_ k_ ∨ P1_2_ k_) ∨ w.heap.size ≤ k_) ∧ some k_ ≠ (.slice Ao15 y416.length co15 : Value).ownBlock ∧ k_ ≠ gb413 ∧ k_ ≠ gb414 ∧ k_ ≠ gb419)) (HO1_2.out) (fun k_ hk => ⟨hk.1, ⟨hk.2.1, ⟨hk.2.2.1, ⟨hk.2.2.2.1, hk.2.2.2.2⟩⟩⟩⟩))).2.1 (Kd.V_F (Kd.V_mono (ok' := (fun k_ => ((P0_1_ k_ ∨ P0_2_ k_ ∨ P1_1_ k_ ∨ P1_2_ k_) ∨ w.heap.size ≤ k_) ∧ some k_ ≠ (.slice Ao15 y416.length co15 : Value).ownBlock ∧ k_ ≠ gb413 ∧ k_ ≠ gb414 ∧ k_ ≠ gb419)) (HO1_2.out) (fun k_ hk => ⟨hk.1, ⟨hk.2.1, ⟨hk.2.2.1, ⟨hk.2.2.2.1, hk.2.2.2.2⟩⟩⟩⟩))))) (Reps.none _ _)))); intro v421 w23 ho24 hb hg_ hnew_; clear hg_ hnew_; (first | rw [← Ny420.out] at ho24 | (simp only [Int.reduceToNat] at ho24; rw [← Ny420.out] at ho24)); have n0_ := Aside0.mk (Kd.V_elder' (by (with_reducible repeat (first | apply Kd.V_alloc | apply Kd.V_drewN | apply Kd.V_drew)); exact HO0_1.out) (Kd.N_base ho24) hb); have n1_ := Aside0.mk (Kd.V_elder' (by (with_reducible repeat (first | apply Kd.V_alloc | apply Kd.V_drewN | apply Kd.V_drew)); exact HO0_2.out) (Kd.N_base ho24) hb); have n2_ := Aside0.mk (Kd.V_elder' (by (with_reducible repeat (first | apply Kd.V_alloc | apply Kd.V_drewN | apply Kd.V_drew)); exact HO1_1.out) (Kd.N_base ho24) hb); have n3_ := Aside0.mk (Kd.V_elder' (by (with_reducible repeat (first | apply Kd.V_alloc | apply Kd.V_drewN | apply Kd.V_drew)); exact HO1_2.out) (Kd.N_base ho24) hb); have n4_ := Aside0.mk (Kd.N_elder' (by (with_reducible repeat (first | apply Kd.N_alloc | apply Kd.N_drewN | apply Kd.N_drew)); exact HO418.out) (Kd.N_base ho24) hb); have n5_ := Aside0.mk (Kd.N_lower ho24 (below_size (by repeat (first | (with_reducible first | exact HB.out | apply below_alloc | apply pw_below_drewN | apply below_drew1 | refine below_set ?_ GE413.out | refine below_set ?_ GE414.out | refine below_set ?_ GE419.out) | exact HB.out)))); have n6_ := Aside0.mk (blk_below (g := gb413) (o := .cells #[.int .i64 a0_0, .slice A0_1 l0_1.length c0_1, .slice A0_2 l0_2.length c0_2] 25 (0, 0)) (by (with_reducible repeat (first | refine blk_drewN ?_ _ | refine blk_drew ?_ | refine blk_alloc ?_ _)); exact BK413.out) hb); have n7_ := Aside0.mk (blk_below (g := gb414) (o := .cells #[.int .i64 a1_0, .slice A1_1 l1_1.length c1_1, .slice A1_2 l1_2.length c1_2] 25 (0, 0)) (by (with_reducible repeat (first | refine blk_drewN ?_ _ | refine blk_drew ?_ | refine blk_alloc ?_ _)); exact BK414.out) hb); have n8_ := Aside0.mk (blk_below (g := gb419) (o := .cells #[.int .i64 2, .slice none 0 0, .slice Ao15 y416.length co15] 25 (0, 0)) (by (with_reducible repeat (first | refine blk_drewN ?_ _ | refine blk_drew ?_ | refine blk_alloc ?_ _)); exact BK419.out) hb); have n9_ := Aside0.mk (below_step (by repeat (first | (with_reducible first | exact HB.out | apply below_alloc | apply pw_below_drewN | apply below_drew1 | refine below_set ?_ GE413.out | refine below_set ?_ GE414.out | refine below_set ?_ GE419.out) | exact HB.out)) hb); clear HO0_1; clear HO0_2; clear HO1_1; clear HO1_2; clear HO418; clear BK413; clear BK414; clear BK419; clear HB; have HO0_1 := n0_; have HO0_2 := n1_; have HO1_1 := n2_; have HO1_2 := n3_; have HO418 := n4_; have HO422 := n5_; have BK413 := n6_; have BK414 := n7_; have BK419 := n8_; have HB := n9_; clear n0_ n1_ n2_ n3_ n4_ n5_ n6_ n7_ n8_ n9_; clear hb ho24; obtain ⟨Ao25, co25, eo25⟩ := Kd.N_slice HO422.out; subst eo25) | ((with_reducible refine gate_dst (N := 8) rfl ?_); (try (refine gate_guard (by rfl) ?_; dsimp only)); refine box_event ?hg (N := 8) ?hd (cs := #[.int .i64 0, .slice none 0 0, .slice none 0 0]) (t := 25) ?hr ?_; (case hd => rfl); (case hg => rfl); (case hr => first | (go_simp; done) | (go_simp; rfl)); intro gb423 hg w26 hbox hb; have n0_ := Aside0.mk (Kd.V_below (Kd.V_elderB (by (with_reducible repeat (first | apply Kd.V_alloc | apply Kd.V_drewN | apply Kd.V_drew)); exact HO0_1.out) gb423 (Nat.le_of_eq hg.symm)) hb); have n1_ := Aside0.mk (Kd.V_below (Kd.V_elderB (by (with_reducible repeat (first | apply Kd.V_alloc | apply Kd.V_drewN | apply Kd.V_drew)); exact HO0_2.out) gb423 (Nat.le_of_eq hg.symm)) hb); have n2_ := Aside0.mk (Kd.V_below (Kd.V_elderB (by (with_reducible repeat (first | apply Kd.V_alloc | apply Kd.V_drewN | apply Kd.V_drew)); exact HO1_1.out) gb423 (Nat.le_of_eq hg.symm)) hb); have n3_ := Aside0.mk (Kd.V_below (Kd.V_elderB (by (with_reducible repeat (first | apply Kd.V_alloc | apply Kd.V_drewN | apply Kd.V_drew)); exact HO1_2.out) gb423 (Nat.le_of_eq hg.symm)) hb); have n4_ := Aside0.mk (Kd.N_below (Kd.N_elderB (by (with_reducible repeat (first | apply Kd.N_alloc | apply Kd.N_drewN | apply Kd.N_drew)); exact HO418.out) gb423 (Nat.le_of_eq hg.symm)) hb); have n5_ := Aside0.mk (Kd.N_below (Kd.N_elderB (by (with_reducible repeat (first | apply Kd.N_alloc | apply Kd.N_drewN | apply Kd.N_drew)); exact HO422.out) gb423 (Nat.le_of_eq hg.symm)) hb); have n6_ := Aside0.mk (blk_below (g := gb413) (o := .cells #[.int .i64 a0_0, .slice A0_1 l0_1.length c0_1, .slice A0_2 l0_2.length c0_2] 25 (0, 0)) (by (with_reducible repeat (first | refine blk_drewN ?_ _ | refine blk_drew ?_ | refine blk_alloc ?_ _)); exact BK413.out) hb); have n7_ := Aside0.mk (blk_below (g := gb414) (o := .cells #[.int .i64 a1_0, .slice A1_1 l1_1.length c1_1, .slice A1_2 l1_2.length c1_2] 25 (0, 0)) (by (with_reducible repeat (first | refine blk_drewN ?_ _ | refine blk_drew ?_ | refine blk_alloc ?_ _)); exact BK414.out) hb); have n8_ := Aside0.mk (blk_below (g := gb419) (o := .cells #[.int .i64 2, .slice none 0 0, .slice Ao15 y416.length co15] 25 (0, 0)) (by (with_reducible repeat (first | refine blk_drewN ?_ _ | refine blk_drew ?_ | refine blk_alloc ?_ _)); exact BK419.out) hb); have n9_ := Aside0.mk (below_step (by repeat (first | (with_reducible first | exact HB.out | apply below_alloc | apply pw_below_drewN | apply below_drew1 | refine below_set ?_ GE413.out | refine below_set ?_ GE414.out | refine below_set ?_ GE419.out) | exact HB.out)) hb); have n10_ := Aside0.mk (hbox); have n11_ := Aside0.mk ((by rw [hg]; exact (below_size (by repeat (first | (with_reducible first | exact HB.out | apply below_alloc | apply pw_below_drewN | apply below_drew1 | refine below_set ?_ GE413.out | refine below_set ?_ GE414.out | refine below_set ?_ GE419.out) | exact HB.out))) : w.heap.size ≤ gb423)); have n12_ := Aside0.mk ((by rw [hg]; exact (below_size (by repeat (first | (with_reducible first | exact HB.out | apply below_alloc | apply pw_below_drewN | apply below_drew1 | refine below_set ?_ GE413.out | refine below_set ?_ GE414.out | refine below_set ?_ GE419.out) | exact HB.out))) : w.heap.size ≤ gb423)); have n13_ := Aside0.mk ((by rw [hg]; exact Nat.ne_of_lt (blk_lt (g := gb413) (o := .cells #[.int .i64 a0_0, .slice A0_1 l0_1.length c0_1, .slice A0_2 l0_2.length c0_2] 25 (0, 0)) (by (with_reducible repeat (first | refine blk_drewN ?_ _ | refine blk_drew ?_ | refine blk_alloc ?_ _)); exact BK413.out)) : gb413 ≠ gb423)); have n14_ := Aside0.mk ((by rw [hg]; exact Nat.ne_of_gt (blk_lt (g := gb413) (o := .cells #[.int .i64 a0_0, .slice A0_1 l0_1.length c0_1, .slice A0_2 l0_2.length c0_2] 25 (0, 0)) (by (with_reducible repeat (first | refine blk_drewN ?_ _ | refine blk_drew ?_ | refine blk_alloc ?_ _)); exact BK413.out)) : gb423 ≠ gb413)); have n15_ := Aside0.mk ((by rw [hg]; exact Nat.ne_of_lt (blk_lt (g := gb414) (o := .cells #[.int .i64 a1_0, .slice A1_1 l1_1.length c1_1, .slice A1_2 l1_2.length c1_2] 25 (0, 0)) (by (with_reducible repeat (first | refine blk_drewN ?_ _ | refine blk_drew ?_ | refine blk_alloc ?_ _)); exact BK414.out)) : gb414 ≠ gb423)); have n16_ := Aside0.mk ((by rw [hg]; exact Nat.ne_of_gt (blk_lt (g := gb414) (o := .cells #[.int .i64 a1_0, .slice A1_1 l1_1.length c1_1, .slice A1_2 l1_2.length c1_2] 25 (0, 0)) (by (with_reducible repeat (first | refine blk_drewN ?_ _ | refine blk_drew ?_ | refine blk_alloc ?_ _)); exact BK414.out)) : gb423 ≠ gb414)); have n17_ := Aside0.mk ((by rw [hg]; exact Nat.ne_of_lt (blk_lt (g := gb419) (o := .cells #[.int .i64 2, .slice none 0 0, .slice Ao15 y416.length co15] 25 (0, 0)) (by (with_reducible repeat (first | refine blk_drewN ?_ _ | refine blk_drew ?_ | refine blk_alloc ?_ _)); exact BK419.out)) : gb419 ≠ gb423)); have n18_ := Aside0.mk ((by rw [hg]; exact Nat.ne_of_gt (blk_lt (g := gb419) (o := .cells #[.int .i64 2, .slice none 0 0, .slice Ao15 y416.length co15] 25 (0, 0)) (by (with_reducible repeat (first | refine blk_drewN ?_ _ | refine blk_drew ?_ | refine blk_alloc ?_ _)); exact BK419.out)) : gb423 ≠ gb419)); clear HO0_1; clear HO0_2; clear HO1_1; clear HO1_2; clear HO418; clear HO422; clear BK413; clear BK414; clear BK419; clear HB; have HO0_1 := n0_; have HO0_2 := n1_; have HO1_1 := n2_; have HO1_2 := n3_; have HO418 := n4_; have HO422 := n5_; have BK413 := n6_; have BK414 := n7_; have BK419 := n8_; have HB := n9_; have BK423 := n10_; have GW423 := n11_; have GE423 := n12_; have NB413_423 := n13_; have NB423_413 := n14_; have NB414_423 := n15_; have NB423_414 := n16_; have NB419_423 := n17_; have NB423_419 := n18_; clear n0_ n1_ n2_ n3_ n4_ n5_ n6_ n7_ n8_ n9_ n10_ n11_ n12_ n13_ n14_ n15_ n16_ n17_ n18_; clear hb hbox hg; have hnb27 := NB423_413.out; have hnc27 := NB413_423.out; have hnb28 := NB423_414.out; have hnc28 := NB414_423.out; have hnb29 := NB423_419.out; have hnc29 := NB419_423.out; have hcz30_0 : w26.cell? ⟨gb423, 0, none⟩ = some (.int .i64 0) := (blk_cell BK423.out 0).trans rfl; have hcz30_1 : w26.cell? ⟨gb423, 1, none⟩ = some (.slice none 0 0) := (blk_cell BK423.out 1).trans rfl; have hcz30_2 : w26.cell? ⟨gb423, 2, none⟩ = some (.slice none 0 0) := (blk_cell BK423.out 2).trans rfl; have hfz30_0 := blk_frozen BK423.out 0; have hfz30_1 := blk_frozen BK423.out 1; have hfz30_2 := blk_frozen BK423.out 2))
    (try simp only [Act.put, List.setIfInBounds_toArray, List.set_cons_zero, List.set_cons_succ])
    go_cut [32] (fun v32 wc => ∃ (kq : Nat) (x32_5 : Bool), v32 = .bool x32_5 ∧ Aside0 (dragomanlaw05_PatJoins.j0 kq l2 x32_5 a0_0 l0_1 l0_2 a1_0 l1_1 l1_2 2 y416 3 y420 = some r) ∧ Aside0 (kq ≤ k) ∧ Aside0 (Kd.V k66 66 wc w.heap.size (fun k_ => ((P0_1_ k_ ∨ P0_2_ k_ ∨ P1_1_ k_ ∨ P1_2_ k_) ∨ w.heap.size ≤ k_) ∧ some k_ ≠ ((.slice Ao15 y416.length co15) : Value).ownBlock ∧ some k_ ≠ ((.slice Ao25 y420.length co25) : Value).ownBlock ∧ k_ ≠ gb413 ∧ k_ ≠ gb414 ∧ k_ ≠ gb419 ∧ k_ ≠ gb423) (.slice A0_1 l0_1.length c0_1) l0_1) ∧ Aside0 (Kd.V k25 25 wc w.heap.size (fun k_ => ((P0_1_ k_ ∨ P0_2_ k_ ∨ P1_1_ k_ ∨ P1_2_ k_) ∨ w.heap.size ≤ k_) ∧ some k_ ≠ ((.slice Ao15 y416.length co15) : Value).ownBlock ∧ some k_ ≠ ((.slice Ao25 y420.length co25) : Value).ownBlock ∧ k_ ≠ gb413 ∧ k_ ≠ gb414 ∧ k_ ≠ gb419 ∧ k_ ≠ gb423) (.slice A0_2 l0_2.length c0_2) l0_2) ∧ Aside0 (Kd.V k66 66 wc w.heap.size (fun k_ => ((P0_1_ k_ ∨ P0_2_ k_ ∨ P1_1_ k_ ∨ P1_2_ k_) ∨ w.heap.size ≤ k_) ∧ some k_ ≠ ((.slice Ao15 y416.length co15) : Value).ownBlock ∧ some k_ ≠ ((.slice Ao25 y420.length co25) : Value).ownBlock ∧ k_ ≠ gb413 ∧ k_ ≠ gb414 ∧ k_ ≠ gb419 ∧ k_ ≠ gb423) (.slice A1_1 l1_1.length c1_1) l1_1) ∧ Aside0 (Kd.V k25 25 wc w.heap.size (fun k_ => ((P0_1_ k_ ∨ P0_2_ k_ ∨ P1_1_ k_ ∨ P1_2_ k_) ∨ w.heap.size ≤ k_) ∧ some k_ ≠ ((.slice Ao15 y416.length co15) : Value).ownBlock ∧ some k_ ≠ ((.slice Ao25 y420.length co25) : Value).ownBlock ∧ k_ ≠ gb413 ∧ k_ ≠ gb414 ∧ k_ ≠ gb419 ∧ k_ ≠ gb423) (.slice A1_2 l1_2.length c1_2) l1_2) ∧ Aside0 (Kd.N k25 25 wc w.heap.size (fun k_ => ((P0_1_ k_ ∨ P0_2_ k_ ∨ P1_1_ k_ ∨ P1_2_ k_) ∨ w.heap.size ≤ k_) ∧ some k_ ≠ ((.slice Ao25 y420.length co25) : Value).ownBlock ∧ k_ ≠ gb413 ∧ k_ ≠ gb414 ∧ k_ ≠ gb419 ∧ k_ ≠ gb423) (.slice Ao15 y416.length co15) y416) ∧ Aside0 (Kd.N k25 25 wc w.heap.size (fun k_ => ((P0_1_ k_ ∨ P0_2_ k_ ∨ P1_1_ k_ ∨ P1_2_ k_) ∨ w.heap.size ≤ k_) ∧ some k_ ≠ ((.slice Ao15 y416.length co15) : Value).ownBlock ∧ k_ ≠ gb413 ∧ k_ ≠ gb414 ∧ k_ ≠ gb419 ∧ k_ ≠ gb423) (.slice Ao25 y420.length co25) y420) ∧ Aside0 (wc.heap[gb413]? = some (.cells #[.int .i64 a0_0, (.slice A0_1 l0_1.length c0_1), (.slice A0_2 l0_2.length c0_2)] 25 (0, 0))) ∧ Aside0 (wc.heap[gb414]? = some (.cells #[.int .i64 a1_0, (.slice A1_1 l1_1.length c1_1), (.slice A1_2 l1_2.length c1_2)] 25 (0, 0))) ∧ Aside0 (wc.heap[gb419]? = some (.cells #[.int .i64 2, (.slice none 0 0), (.slice Ao15 y416.length co15)] 25 (0, 0))) ∧ Aside0 (wc.heap[gb423]? = some (.cells #[.int .i64 3, (.slice none 0 0), (.slice Ao25 y420.length co25)] 25 (0, 0))) ∧ Aside0 (Below w.heap.size w wc))
    case first =>
      have H := HC6.out
      clear HC6
      replace H := Option.bind_eq_some_iff.mp H
      obtain ⟨t424, A310, H⟩ := H
      replace H : (if t424 = true then (dragomanlaw05_PatJoins.j0 k l2 true a0_0 l0_1 l0_2 a1_0 l1_1 l1_2 2 y416 3 y420) else (if (l2.length : Int) > 30 then (dragomanlaw05_PatJoins.j0 k l2 true a0_0 l0_1 l0_2 a1_0 l1_1 l1_2 2 y416 3 y420) else ((pat_Right.f k 2 ([] : List (S66)) y416).bind fun t425 => (dragomanlaw05_PatJoins.j0 k l2 (!t425) a0_0 l0_1 l0_2 a1_0 l1_1 l1_2 2 y416 3 y420)))) = some r := H
      have A31 := Aside0.mk A310
      clear A310
      by_cases c32 : t424 = true
      · subst c32
        have H1 : (dragomanlaw05_PatJoins.j0 k l2 true a0_0 l0_1 l0_2 a1_0 l1_1 l1_2 2 y416 3 y420) = some r := by rw [if_pos rfl] at H; exact H
        clear H
        have H := H1
        clear H1
        have H' := Aside0.mk H
        clear H
        have hnb33 := NB419_413.out
        have hnc33 := NB413_419.out
        have hnb34 := NB419_414.out
        have hnc34 := NB414_419.out
        have hnb35 := NB419_423.out
        have hnc35 := NB423_419.out
        have hcz36_0 : w26.cell? ⟨gb419, 0, none⟩ = some (.int .i64 2) := (blk_cell BK419.out 0).trans rfl
        have hcz36_1 : w26.cell? ⟨gb419, 1, none⟩ = some (.slice none 0 0) := (blk_cell BK419.out 1).trans rfl
        have hcz36_2 : w26.cell? ⟨gb419, 2, none⟩ = some (.slice Ao15 y416.length co15) := (blk_cell BK419.out 2).trans rfl
        have hfz36_0 := blk_frozen BK419.out 0
        have hfz36_1 := blk_frozen BK419.out 1
        have hfz36_2 := blk_frozen BK419.out 2
        go_wp2_with (first | ((with_reducible refine gate_callee (f := 14) rfl ?_); refine goesL_ (some 22) rfl rfl Try.func14 (by kernel_rfl) rfl #[.agg #[.int .i64 2, .slice none 0 0, .slice Ao15 y416.length co15]] rfl (by (try simp only [List.map_toArray, List.map_cons, List.map_nil]); first | done | rfl | (simp only [List.length_drop, List.length_take]; rfl)) ?_; (refine (dragomanref05_Great.calls k 2 _ _ ([] : List (S66)) _ _ y416 true _ ?side1 ?side2 ?side3 ?side4 A31.out).mono ?_); (case side1 => exact Kd.C_nil _ _); (case side2 => exact Nat.le_refl _); (case side3 => refine (Kd.N_reads' (e := 25) (base := w.heap.size) (ok := fun k_ => (((((P0_1_ k_ ∨ P0_2_ k_ ∨ P1_1_ k_ ∨ P1_2_ k_) ∨ w.heap.size ≤ k_) ∧ (k_ ≠ gb413 ∧ (k_ ≠ gb414 ∧ k_ ≠ gb419))) ∧ some k_ ≠ (.slice Ao25 y420.length co25 : Value).ownBlock) ∧ k_ ≠ gb423)) (n := y416.length) (c := co15) ?_).2.2; exact (by (with_reducible repeat (first | apply Kd.N_alloc | apply Kd.N_drewN | apply Kd.N_drew)); exact (Kd.N_mono (Kd.N_far (p := ⟨gb423, 2, none⟩) (Kd.N_far (p := ⟨gb423, 1, none⟩) (Kd.N_far (p := ⟨gb423, 0, none⟩) (Kd.N_mono HO418.out (fun k_ hk => (⟨hk, hk.2⟩ : _ ∧ k_ ≠ gb423))) (fun _ hk => hk.2) (.int .i64 3)) (fun _ hk => hk.2) (.slice none 0 0)) (fun _ hk => hk.2) (.slice Ao25 y420.length co25)) (fun _ h_ => h_.1)))); (case side4 => exact (Kd.N_reads' HO418.out).2.1); rintro e w37 ⟨rfl, hb⟩; refine ⟨_, rfl, ?_⟩; have n0_ := Aside0.mk (Kd.V_below (by (with_reducible repeat (first | apply Kd.V_alloc | apply Kd.V_drewN | apply Kd.V_drew)); exact (Kd.V_mono (Kd.V_far (p := ⟨gb423, 2, none⟩) (Kd.V_far (p := ⟨gb423, 1, none⟩) (Kd.V_far (p := ⟨gb423, 0, none⟩) (Kd.V_mono HO0_1.out (fun k_ hk => (⟨hk, hk.2⟩ : _ ∧ k_ ≠ gb423))) (fun _ hk => hk.2) (.int .i64 3)) (fun _ hk => hk.2) (.slice none 0 0)) (fun _ hk => hk.2) (.slice Ao25 y420.length co25)) (fun _ h_ => h_.1))) hb); have n1_ := Aside0.mk (Kd.V_below (by (with_reducible repeat (first | apply Kd.V_alloc | apply Kd.V_drewN | apply Kd.V_drew)); exact (Kd.V_mono (Kd.V_far (p := ⟨gb423, 2, none⟩) (Kd.V_far (p := ⟨gb423, 1, none⟩) (Kd.V_far (p := ⟨gb423, 0, none⟩) (Kd.V_mono HO0_2.out (fun k_ hk => (⟨hk, hk.2⟩ : _ ∧ k_ ≠ gb423))) (fun _ hk => hk.2) (.int .i64 3)) (fun _ hk => hk.2) (.slice none 0 0)) (fun _ hk => hk.2) (.slice Ao25 y420.length co25)) (fun _ h_ => h_.1))) hb); have n2_ := Aside0.mk (Kd.V_below (by (with_reducible repeat (first | apply Kd.V_alloc | apply Kd.V_drewN | apply Kd.V_drew)); exact (Kd.V_mono (Kd.V_far (p := ⟨gb423, 2, none⟩) (Kd.V_far (p := ⟨gb423, 1, none⟩) (Kd.V_far (p := ⟨gb423, 0, none⟩) (Kd.V_mono HO1_1.out (fun k_ hk => (⟨hk, hk.2⟩ : _ ∧ k_ ≠ gb423))) (fun _ hk => hk.2) (.int .i64 3)) (fun _ hk => hk.2) (.slice none 0 0)) (fun _ hk => hk.2) (.slice Ao25 y420.length co25)) (fun _ h_ => h_.1))) hb); have n3_ := Aside0.mk (Kd.V_below (by (with_reducible repeat (first | apply Kd.V_alloc | apply Kd.V_drewN | apply Kd.V_drew)); exact (Kd.V_mono (Kd.V_far (p := ⟨gb423, 2, none⟩) (Kd.V_far (p := ⟨gb423, 1, none⟩) (Kd.V_far (p := ⟨gb423, 0, none⟩) (Kd.V_mono HO1_2.out (fun k_ hk => (⟨hk, hk.2⟩ : _ ∧ k_ ≠ gb423))) (fun _ hk => hk.2) (.int .i64 3)) (fun _ hk => hk.2) (.slice none 0 0)) (fun _ hk => hk.2) (.slice Ao25 y420.length co25)) (fun _ h_ => h_.1))) hb); have n4_ := Aside0.mk (Kd.N_below (by (with_reducible repeat (first | apply Kd.N_alloc | apply Kd.N_drewN | apply Kd.N_drew)); exact (Kd.N_mono (Kd.N_far (p := ⟨gb423, 2, none⟩) (Kd.N_far (p := ⟨gb423, 1, none⟩) (Kd.N_far (p := ⟨gb423, 0, none⟩) (Kd.N_mono HO418.out (fun k_ hk => (⟨hk, hk.2⟩ : _ ∧ k_ ≠ gb423))) (fun _ hk => hk.2) (.int .i64 3)) (fun _ hk => hk.2) (.slice none 0 0)) (fun _ hk => hk.2) (.slice Ao25 y420.length co25)) (fun _ h_ => h_.1))) hb); have n5_ := Aside0.mk (Kd.N_below (by (with_reducible repeat (first | apply Kd.N_alloc | apply Kd.N_drewN | apply Kd.N_drew)); exact (Kd.N_mono (Kd.N_far (p := ⟨gb423, 2, none⟩) (Kd.N_far (p := ⟨gb423, 1, none⟩) (Kd.N_far (p := ⟨gb423, 0, none⟩) (Kd.N_mono HO422.out (fun k_ hk => (⟨hk, hk.2⟩ : _ ∧ k_ ≠ gb423))) (fun _ hk => hk.2) (.int .i64 3)) (fun _ hk => hk.2) (.slice none 0 0)) (fun _ hk => hk.2) (.slice Ao25 y420.length co25)) (fun _ h_ => h_.1))) hb); have n6_ := Aside0.mk (blk_below (g := gb413) (o := .cells #[.int .i64 a0_0, .slice A0_1 l0_1.length c0_1, .slice A0_2 l0_2.length c0_2] 25 (0, 0)) (by (with_reducible repeat (first | refine blk_drewN ?_ _ | refine blk_drew ?_ | refine blk_alloc ?_ _)); refine blk_far ?_ NB413_423.out _; (with_reducible repeat (first | refine blk_drewN ?_ _ | refine blk_drew ?_ | refine blk_alloc ?_ _)); refine blk_far ?_ NB413_423.out _; (with_reducible repeat (first | refine blk_drewN ?_ _ | refine blk_drew ?_ | refine blk_alloc ?_ _)); refine blk_far ?_ NB413_423.out _; (with_reducible repeat (first | refine blk_drewN ?_ _ | refine blk_drew ?_ | refine blk_alloc ?_ _)); exact BK413.out) hb); have n7_ := Aside0.mk (blk_below (g := gb414) (o := .cells #[.int .i64 a1_0, .slice A1_1 l1_1.length c1_1, .slice A1_2 l1_2.length c1_2] 25 (0, 0)) (by (with_reducible repeat (first | refine blk_drewN ?_ _ | refine blk_drew ?_ | refine blk_alloc ?_ _)); refine blk_far ?_ NB414_423.out _; (with_reducible repeat (first | refine blk_drewN ?_ _ | refine blk_drew ?_ | refine blk_alloc ?_ _)); refine blk_far ?_ NB414_423.out _; (with_reducible repeat (first | refine blk_drewN ?_ _ | refine blk_drew ?_ | refine blk_alloc ?_ _)); refine blk_far ?_ NB414_423.out _; (with_reducible repeat (first | refine blk_drewN ?_ _ | refine blk_drew ?_ | refine blk_alloc ?_ _)); exact BK414.out) hb); have n8_ := Aside0.mk (blk_below (g := gb419) (o := .cells #[.int .i64 2, .slice none 0 0, .slice Ao15 y416.length co15] 25 (0, 0)) (by (with_reducible repeat (first | refine blk_drewN ?_ _ | refine blk_drew ?_ | refine blk_alloc ?_ _)); refine blk_far ?_ NB419_423.out _; (with_reducible repeat (first | refine blk_drewN ?_ _ | refine blk_drew ?_ | refine blk_alloc ?_ _)); refine blk_far ?_ NB419_423.out _; (with_reducible repeat (first | refine blk_drewN ?_ _ | refine blk_drew ?_ | refine blk_alloc ?_ _)); refine blk_far ?_ NB419_423.out _; (with_reducible repeat (first | refine blk_drewN ?_ _ | refine blk_drew ?_ | refine blk_alloc ?_ _)); exact BK419.out) hb); have n9_ := Aside0.mk (blk_below (g := gb423) (o := .cells #[.int .i64 3, .slice none 0 0, .slice Ao25 y420.length co25] 25 (0, 0)) (by (with_reducible repeat (first | refine blk_drewN ?_ _ | refine blk_drew ?_ | refine blk_alloc ?_ _)); refine blk_put (cs := #[.int .i64 3, .slice none 0 0, .slice none 0 0]) ?_ 2 _ rfl; (with_reducible repeat (first | refine blk_drewN ?_ _ | refine blk_drew ?_ | refine blk_alloc ?_ _)); refine blk_put (cs := #[.int .i64 3, .slice none 0 0, .slice none 0 0]) ?_ 1 _ rfl; (with_reducible repeat (first | refine blk_drewN ?_ _ | refine blk_drew ?_ | refine blk_alloc ?_ _)); refine blk_put (cs := #[.int .i64 0, .slice none 0 0, .slice none 0 0]) ?_ 0 _ rfl; (with_reducible repeat (first | refine blk_drewN ?_ _ | refine blk_drew ?_ | refine blk_alloc ?_ _)); exact BK423.out) hb); have n10_ := Aside0.mk (below_step (by repeat (first | (with_reducible first | exact HB.out | apply below_alloc | apply pw_below_drewN | apply below_drew1 | refine below_set ?_ GE413.out | refine below_set ?_ GE414.out | refine below_set ?_ GE419.out | refine below_set ?_ GE423.out) | exact HB.out)) hb); clear HO0_1; clear HO0_2; clear HO1_1; clear HO1_2; clear HO418; clear HO422; clear BK413; clear BK414; clear BK419; clear BK423; clear HB; have HO0_1 := n0_; have HO0_2 := n1_; have HO1_1 := n2_; have HO1_2 := n3_; have HO418 := n4_; have HO422 := n5_; have BK413 := n6_; have BK414 := n7_; have BK419 := n8_; have BK423 := n9_; have HB := n10_; clear n0_ n1_ n2_ n3_ n4_ n5_ n6_ n7_ n8_ n9_ n10_; (try clear hb); (try clear hb2); (try clear hk); (try clear hi)))
        go_meet
        case rel => exact ⟨_, (true), (by first | rfl | (simp; done) | (simp [*]; done)), H', ⟨by first | omega | exact Nat.le_refl _⟩, ⟨by (with_reducible repeat (first | apply Kd.V_alloc | apply Kd.V_drewN | apply Kd.V_drew)); exact Kd.V_mono HO0_1.out (fun _ hk => ⟨hk.1.1.1, ⟨hk.1.1.2.1, ⟨hk.1.2, ⟨hk.1.1.2.2.1, ⟨hk.1.1.2.2.2.1, ⟨hk.1.1.2.2.2.2, hk.2⟩⟩⟩⟩⟩⟩)⟩, ⟨by (with_reducible repeat (first | apply Kd.V_alloc | apply Kd.V_drewN | apply Kd.V_drew)); exact Kd.V_mono HO0_2.out (fun _ hk => ⟨hk.1.1.1, ⟨hk.1.1.2.1, ⟨hk.1.2, ⟨hk.1.1.2.2.1, ⟨hk.1.1.2.2.2.1, ⟨hk.1.1.2.2.2.2, hk.2⟩⟩⟩⟩⟩⟩)⟩, ⟨by (with_reducible repeat (first | apply Kd.V_alloc | apply Kd.V_drewN | apply Kd.V_drew)); exact Kd.V_mono HO1_1.out (fun _ hk => ⟨hk.1.1.1, ⟨hk.1.1.2.1, ⟨hk.1.2, ⟨hk.1.1.2.2.1, ⟨hk.1.1.2.2.2.1, ⟨hk.1.1.2.2.2.2, hk.2⟩⟩⟩⟩⟩⟩)⟩, ⟨by (with_reducible repeat (first | apply Kd.V_alloc | apply Kd.V_drewN | apply Kd.V_drew)); exact Kd.V_mono HO1_2.out (fun _ hk => ⟨hk.1.1.1, ⟨hk.1.1.2.1, ⟨hk.1.2, ⟨hk.1.1.2.2.1, ⟨hk.1.1.2.2.2.1, ⟨hk.1.1.2.2.2.2, hk.2⟩⟩⟩⟩⟩⟩)⟩, ⟨by (with_reducible repeat (first | apply Kd.N_alloc | apply Kd.N_drewN | apply Kd.N_drew)); exact Kd.N_mono HO418.out (fun _ hk => ⟨hk.1.1.1, ⟨hk.1.2, ⟨hk.1.1.2.1, ⟨hk.1.1.2.2.1, ⟨hk.1.1.2.2.2, hk.2⟩⟩⟩⟩⟩)⟩, ⟨by (with_reducible repeat (first | apply Kd.N_alloc | apply Kd.N_drewN | apply Kd.N_drew)); exact Kd.N_mono HO422.out (fun _ hk => ⟨hk.1.1, ⟨hk.1.2.1, ⟨hk.1.2.2.1, ⟨hk.1.2.2.2.1, ⟨hk.1.2.2.2.2, hk.2⟩⟩⟩⟩⟩)⟩, ⟨by (with_reducible repeat (first | refine blk_drewN ?_ _ | refine blk_drew ?_ | refine blk_alloc ?_ _)); exact BK413.out⟩, ⟨by (with_reducible repeat (first | refine blk_drewN ?_ _ | refine blk_drew ?_ | refine blk_alloc ?_ _)); exact BK414.out⟩, ⟨by (with_reducible repeat (first | refine blk_drewN ?_ _ | refine blk_drew ?_ | refine blk_alloc ?_ _)); exact BK419.out⟩, ⟨by (with_reducible repeat (first | refine blk_drewN ?_ _ | refine blk_drew ?_ | refine blk_alloc ?_ _)); exact BK423.out⟩, ⟨by repeat (first | (with_reducible first | exact HB.out | apply below_alloc | apply pw_below_drewN | apply below_drew1 | refine below_set ?_ GE413.out | refine below_set ?_ GE414.out | refine below_set ?_ GE419.out | refine below_set ?_ GE423.out) | exact HB.out)⟩⟩
      · replace c32 := Bool.eq_false_iff.mpr c32
        subst c32
        have H1 : (if (l2.length : Int) > 30 then (dragomanlaw05_PatJoins.j0 k l2 true a0_0 l0_1 l0_2 a1_0 l1_1 l1_2 2 y416 3 y420) else ((pat_Right.f k 2 ([] : List (S66)) y416).bind fun t425 => (dragomanlaw05_PatJoins.j0 k l2 (!t425) a0_0 l0_1 l0_2 a1_0 l1_1 l1_2 2 y416 3 y420))) = some r := by rw [if_neg (show ¬ (false = true) by decide)] at H; exact H
        clear H
        have H := H1
        clear H1
        by_cases c38 : (l2.length : Int) > 30
        · rw [if_pos c38] at H
          have c38b0 : decide (30 < (l2.length : Int)) = true := decide_eq_true c38
          have c38b1 : decide (30 < l2.length) = true := decide_eq_true (by omega)
          clear c38
          (first | rw [c38b0] | (simp only [i64_w, i32_w]; rw [c38b0]) | skip)
          have H' := Aside0.mk H
          clear H
          have hnb39 := NB419_413.out
          have hnc39 := NB413_419.out
          have hnb40 := NB419_414.out
          have hnc40 := NB414_419.out
          have hnb41 := NB419_423.out
          have hnc41 := NB423_419.out
          have hcz42_0 : w26.cell? ⟨gb419, 0, none⟩ = some (.int .i64 2) := (blk_cell BK419.out 0).trans rfl
          have hcz42_1 : w26.cell? ⟨gb419, 1, none⟩ = some (.slice none 0 0) := (blk_cell BK419.out 1).trans rfl
          have hcz42_2 : w26.cell? ⟨gb419, 2, none⟩ = some (.slice Ao15 y416.length co15) := (blk_cell BK419.out 2).trans rfl
          have hfz42_0 := blk_frozen BK419.out 0
          have hfz42_1 := blk_frozen BK419.out 1
          have hfz42_2 := blk_frozen BK419.out 2
          go_wp2_with (first | ((with_reducible refine gate_callee (f := 14) rfl ?_); refine goesL_ (some 22) rfl rfl Try.func14 (by kernel_rfl) rfl #[.agg #[.int .i64 2, .slice none 0 0, .slice Ao15 y416.length co15]] rfl (by (try simp only [List.map_toArray, List.map_cons, List.map_nil]); first | done | rfl | (simp only [List.length_drop, List.length_take]; rfl)) ?_; (refine (dragomanref05_Great.calls k 2 _ _ ([] : List (S66)) _ _ y416 false _ ?side1 ?side2 ?side3 ?side4 A31.out).mono ?_); (case side1 => exact Kd.C_nil _ _); (case side2 => exact Nat.le_refl _); (case side3 => refine (Kd.N_reads' (e := 25) (base := w.heap.size) (ok := fun k_ => (((((P0_1_ k_ ∨ P0_2_ k_ ∨ P1_1_ k_ ∨ P1_2_ k_) ∨ w.heap.size ≤ k_) ∧ (k_ ≠ gb413 ∧ (k_ ≠ gb414 ∧ k_ ≠ gb419))) ∧ some k_ ≠ (.slice Ao25 y420.length co25 : Value).ownBlock) ∧ k_ ≠ gb423)) (n := y416.length) (c := co15) ?_).2.2; exact (by (with_reducible repeat (first | apply Kd.N_alloc | apply Kd.N_drewN | apply Kd.N_drew)); exact (Kd.N_mono (Kd.N_far (p := ⟨gb423, 2, none⟩) (Kd.N_far (p := ⟨gb423, 1, none⟩) (Kd.N_far (p := ⟨gb423, 0, none⟩) (Kd.N_mono HO418.out (fun k_ hk => (⟨hk, hk.2⟩ : _ ∧ k_ ≠ gb423))) (fun _ hk => hk.2) (.int .i64 3)) (fun _ hk => hk.2) (.slice none 0 0)) (fun _ hk => hk.2) (.slice Ao25 y420.length co25)) (fun _ h_ => h_.1)))); (case side4 => exact (Kd.N_reads' HO418.out).2.1); rintro e w43 ⟨rfl, hb⟩; refine ⟨_, rfl, ?_⟩; have n0_ := Aside0.mk (Kd.V_below (by (with_reducible repeat (first | apply Kd.V_alloc | apply Kd.V_drewN | apply Kd.V_drew)); exact (Kd.V_mono (Kd.V_far (p := ⟨gb423, 2, none⟩) (Kd.V_far (p := ⟨gb423, 1, none⟩) (Kd.V_far (p := ⟨gb423, 0, none⟩) (Kd.V_mono HO0_1.out (fun k_ hk => (⟨hk, hk.2⟩ : _ ∧ k_ ≠ gb423))) (fun _ hk => hk.2) (.int .i64 3)) (fun _ hk => hk.2) (.slice none 0 0)) (fun _ hk => hk.2) (.slice Ao25 y420.length co25)) (fun _ h_ => h_.1))) hb); have n1_ := Aside0.mk (Kd.V_below (by (with_reducible repeat (first | apply Kd.V_alloc | apply Kd.V_drewN | apply Kd.V_drew)); exact (Kd.V_mono (Kd.V_far (p := ⟨gb423, 2, none⟩) (Kd.V_far (p := ⟨gb423, 1, none⟩) (Kd.V_far (p := ⟨gb423, 0, none⟩) (Kd.V_mono HO0_2.out (fun k_ hk => (⟨hk, hk.2⟩ : _ ∧ k_ ≠ gb423))) (fun _ hk => hk.2) (.int .i64 3)) (fun _ hk => hk.2) (.slice none 0 0)) (fun _ hk => hk.2) (.slice Ao25 y420.length co25)) (fun _ h_ => h_.1))) hb); have n2_ := Aside0.mk (Kd.V_below (by (with_reducible repeat (first | apply Kd.V_alloc | apply Kd.V_drewN | apply Kd.V_drew)); exact (Kd.V_mono (Kd.V_far (p := ⟨gb423, 2, none⟩) (Kd.V_far (p := ⟨gb423, 1, none⟩) (Kd.V_far (p := ⟨gb423, 0, none⟩) (Kd.V_mono HO1_1.out (fun k_ hk => (⟨hk, hk.2⟩ : _ ∧ k_ ≠ gb423))) (fun _ hk => hk.2) (.int .i64 3)) (fun _ hk => hk.2) (.slice none 0 0)) (fun _ hk => hk.2) (.slice Ao25 y420.length co25)) (fun _ h_ => h_.1))) hb); have n3_ := Aside0.mk (Kd.V_below (by (with_reducible repeat (first | apply Kd.V_alloc | apply Kd.V_drewN | apply Kd.V_drew)); exact (Kd.V_mono (Kd.V_far (p := ⟨gb423, 2, none⟩) (Kd.V_far (p := ⟨gb423, 1, none⟩) (Kd.V_far (p := ⟨gb423, 0, none⟩) (Kd.V_mono HO1_2.out (fun k_ hk => (⟨hk, hk.2⟩ : _ ∧ k_ ≠ gb423))) (fun _ hk => hk.2) (.int .i64 3)) (fun _ hk => hk.2) (.slice none 0 0)) (fun _ hk => hk.2) (.slice Ao25 y420.length co25)) (fun _ h_ => h_.1))) hb); have n4_ := Aside0.mk (Kd.N_below (by (with_reducible repeat (first | apply Kd.N_alloc | apply Kd.N_drewN | apply Kd.N_drew)); exact (Kd.N_mono (Kd.N_far (p := ⟨gb423, 2, none⟩) (Kd.N_far (p := ⟨gb423, 1, none⟩) (Kd.N_far (p := ⟨gb423, 0, none⟩) (Kd.N_mono HO418.out (fun k_ hk => (⟨hk, hk.2⟩ : _ ∧ k_ ≠ gb423))) (fun _ hk => hk.2) (.int .i64 3)) (fun _ hk => hk.2) (.slice none 0 0)) (fun _ hk => hk.2) (.slice Ao25 y420.length co25)) (fun _ h_ => h_.1))) hb); have n5_ := Aside0.mk (Kd.N_below (by (with_reducible repeat (first | apply Kd.N_alloc | apply Kd.N_drewN | apply Kd.N_drew)); exact (Kd.N_mono (Kd.N_far (p := ⟨gb423, 2, none⟩) (Kd.N_far (p := ⟨gb423, 1, none⟩) (Kd.N_far (p := ⟨gb423, 0, none⟩) (Kd.N_mono HO422.out (fun k_ hk => (⟨hk, hk.2⟩ : _ ∧ k_ ≠ gb423))) (fun _ hk => hk.2) (.int .i64 3)) (fun _ hk => hk.2) (.slice none 0 0)) (fun _ hk => hk.2) (.slice Ao25 y420.length co25)) (fun _ h_ => h_.1))) hb); have n6_ := Aside0.mk (blk_below (g := gb413) (o := .cells #[.int .i64 a0_0, .slice A0_1 l0_1.length c0_1, .slice A0_2 l0_2.length c0_2] 25 (0, 0)) (by (with_reducible repeat (first | refine blk_drewN ?_ _ | refine blk_drew ?_ | refine blk_alloc ?_ _)); refine blk_far ?_ NB413_423.out _; (with_reducible repeat (first | refine blk_drewN ?_ _ | refine blk_drew ?_ | refine blk_alloc ?_ _)); refine blk_far ?_ NB413_423.out _; (with_reducible repeat (first | refine blk_drewN ?_ _ | refine blk_drew ?_ | refine blk_alloc ?_ _)); refine blk_far ?_ NB413_423.out _; (with_reducible repeat (first | refine blk_drewN ?_ _ | refine blk_drew ?_ | refine blk_alloc ?_ _)); exact BK413.out) hb); have n7_ := Aside0.mk (blk_below (g := gb414) (o := .cells #[.int .i64 a1_0, .slice A1_1 l1_1.length c1_1, .slice A1_2 l1_2.length c1_2] 25 (0, 0)) (by (with_reducible repeat (first | refine blk_drewN ?_ _ | refine blk_drew ?_ | refine blk_alloc ?_ _)); refine blk_far ?_ NB414_423.out _; (with_reducible repeat (first | refine blk_drewN ?_ _ | refine blk_drew ?_ | refine blk_alloc ?_ _)); refine blk_far ?_ NB414_423.out _; (with_reducible repeat (first | refine blk_drewN ?_ _ | refine blk_drew ?_ | refine blk_alloc ?_ _)); refine blk_far ?_ NB414_423.out _; (with_reducible repeat (first | refine blk_drewN ?_ _ | refine blk_drew ?_ | refine blk_alloc ?_ _)); exact BK414.out) hb); have n8_ := Aside0.mk (blk_below (g := gb419) (o := .cells #[.int .i64 2, .slice none 0 0, .slice Ao15 y416.length co15] 25 (0, 0)) (by (with_reducible repeat (first | refine blk_drewN ?_ _ | refine blk_drew ?_ | refine blk_alloc ?_ _)); refine blk_far ?_ NB419_423.out _; (with_reducible repeat (first | refine blk_drewN ?_ _ | refine blk_drew ?_ | refine blk_alloc ?_ _)); refine blk_far ?_ NB419_423.out _; (with_reducible repeat (first | refine blk_drewN ?_ _ | refine blk_drew ?_ | refine blk_alloc ?_ _)); refine blk_far ?_ NB419_423.out _; (with_reducible repeat (first | refine blk_drewN ?_ _ | refine blk_drew ?_ | refine blk_alloc ?_ _)); exact BK419.out) hb); have n9_ := Aside0.mk (blk_below (g := gb423) (o := .cells #[.int .i64 3, .slice none 0 0, .slice Ao25 y420.length co25] 25 (0, 0)) (by (with_reducible repeat (first | refine blk_drewN ?_ _ | refine blk_drew ?_ | refine blk_alloc ?_ _)); refine blk_put (cs := #[.int .i64 3, .slice none 0 0, .slice none 0 0]) ?_ 2 _ rfl; (with_reducible repeat (first | refine blk_drewN ?_ _ | refine blk_drew ?_ | refine blk_alloc ?_ _)); refine blk_put (cs := #[.int .i64 3, .slice none 0 0, .slice none 0 0]) ?_ 1 _ rfl; (with_reducible repeat (first | refine blk_drewN ?_ _ | refine blk_drew ?_ | refine blk_alloc ?_ _)); refine blk_put (cs := #[.int .i64 0, .slice none 0 0, .slice none 0 0]) ?_ 0 _ rfl; (with_reducible repeat (first | refine blk_drewN ?_ _ | refine blk_drew ?_ | refine blk_alloc ?_ _)); exact BK423.out) hb); have n10_ := Aside0.mk (below_step (by repeat (first | (with_reducible first | exact HB.out | apply below_alloc | apply pw_below_drewN | apply below_drew1 | refine below_set ?_ GE413.out | refine below_set ?_ GE414.out | refine below_set ?_ GE419.out | refine below_set ?_ GE423.out) | exact HB.out)) hb); clear HO0_1; clear HO0_2; clear HO1_1; clear HO1_2; clear HO418; clear HO422; clear BK413; clear BK414; clear BK419; clear BK423; clear HB; have HO0_1 := n0_; have HO0_2 := n1_; have HO1_1 := n2_; have HO1_2 := n3_; have HO418 := n4_; have HO422 := n5_; have BK413 := n6_; have BK414 := n7_; have BK419 := n8_; have BK423 := n9_; have HB := n10_; clear n0_ n1_ n2_ n3_ n4_ n5_ n6_ n7_ n8_ n9_ n10_; (try clear hb); (try clear hb2); (try clear hk); (try clear hi)))
          go_meet
          case rel => exact ⟨_, (true), (by first | rfl | (simp; done) | (simp [*]; done)), H', ⟨by first | omega | exact Nat.le_refl _⟩, ⟨by (with_reducible repeat (first | apply Kd.V_alloc | apply Kd.V_drewN | apply Kd.V_drew)); exact Kd.V_mono HO0_1.out (fun _ hk => ⟨hk.1.1.1, ⟨hk.1.1.2.1, ⟨hk.1.2, ⟨hk.1.1.2.2.1, ⟨hk.1.1.2.2.2.1, ⟨hk.1.1.2.2.2.2, hk.2⟩⟩⟩⟩⟩⟩)⟩, ⟨by (with_reducible repeat (first | apply Kd.V_alloc | apply Kd.V_drewN | apply Kd.V_drew)); exact Kd.V_mono HO0_2.out (fun _ hk => ⟨hk.1.1.1, ⟨hk.1.1.2.1, ⟨hk.1.2, ⟨hk.1.1.2.2.1, ⟨hk.1.1.2.2.2.1, ⟨hk.1.1.2.2.2.2, hk.2⟩⟩⟩⟩⟩⟩)⟩, ⟨by (with_reducible repeat (first | apply Kd.V_alloc | apply Kd.V_drewN | apply Kd.V_drew)); exact Kd.V_mono HO1_1.out (fun _ hk => ⟨hk.1.1.1, ⟨hk.1.1.2.1, ⟨hk.1.2, ⟨hk.1.1.2.2.1, ⟨hk.1.1.2.2.2.1, ⟨hk.1.1.2.2.2.2, hk.2⟩⟩⟩⟩⟩⟩)⟩, ⟨by (with_reducible repeat (first | apply Kd.V_alloc | apply Kd.V_drewN | apply Kd.V_drew)); exact Kd.V_mono HO1_2.out (fun _ hk => ⟨hk.1.1.1, ⟨hk.1.1.2.1, ⟨hk.1.2, ⟨hk.1.1.2.2.1, ⟨hk.1.1.2.2.2.1, ⟨hk.1.1.2.2.2.2, hk.2⟩⟩⟩⟩⟩⟩)⟩, ⟨by (with_reducible repeat (first | apply Kd.N_alloc | apply Kd.N_drewN | apply Kd.N_drew)); exact Kd.N_mono HO418.out (fun _ hk => ⟨hk.1.1.1, ⟨hk.1.2, ⟨hk.1.1.2.1, ⟨hk.1.1.2.2.1, ⟨hk.1.1.2.2.2, hk.2⟩⟩⟩⟩⟩)⟩, ⟨by (with_reducible repeat (first | apply Kd.N_alloc | apply Kd.N_drewN | apply Kd.N_drew)); exact Kd.N_mono HO422.out (fun _ hk => ⟨hk.1.1, ⟨hk.1.2.1, ⟨hk.1.2.2.1, ⟨hk.1.2.2.2.1, ⟨hk.1.2.2.2.2, hk.2⟩⟩⟩⟩⟩)⟩, ⟨by (with_reducible repeat (first | refine blk_drewN ?_ _ | refine blk_drew ?_ | refine blk_alloc ?_ _)); exact BK413.out⟩, ⟨by (with_reducible repeat (first | refine blk_drewN ?_ _ | refine blk_drew ?_ | refine blk_alloc ?_ _)); exact BK414.out⟩, ⟨by (with_reducible repeat (first | refine blk_drewN ?_ _ | refine blk_drew ?_ | refine blk_alloc ?_ _)); exact BK419.out⟩, ⟨by (with_reducible repeat (first | refine blk_drewN ?_ _ | refine blk_drew ?_ | refine blk_alloc ?_ _)); exact BK423.out⟩, ⟨by repeat (first | (with_reducible first | exact HB.out | apply below_alloc | apply pw_below_drewN | apply below_drew1 | refine below_set ?_ GE413.out | refine below_set ?_ GE414.out | refine below_set ?_ GE419.out | refine below_set ?_ GE423.out) | exact HB.out)⟩⟩
        · rw [if_neg c38] at H
          have c38b0 : decide (30 < (l2.length : Int)) = false := decide_eq_false c38
          have c38b1 : decide (30 < l2.length) = false := decide_eq_false (by omega)
          clear c38
          (first | rw [c38b0] | (simp only [i64_w, i32_w]; rw [c38b0]) | skip)
          replace H := Option.bind_eq_some_iff.mp H
          obtain ⟨t425, A440, H⟩ := H
          replace H : (dragomanlaw05_PatJoins.j0 k l2 (!t425) a0_0 l0_1 l0_2 a1_0 l1_1 l1_2 2 y416 3 y420) = some r := H
          have A44 := Aside0.mk A440
          clear A440
          have H' := Aside0.mk H
          clear H
          have hnb45 := NB419_413.out
          have hnc45 := NB413_419.out
          have hnb46 := NB419_414.out
          have hnc46 := NB414_419.out
          have hnb47 := NB419_423.out
          have hnc47 := NB423_419.out
          have hcz48_0 : w26.cell? ⟨gb419, 0, none⟩ = some (.int .i64 2) := (blk_cell BK419.out 0).trans rfl
          have hcz48_1 : w26.cell? ⟨gb419, 1, none⟩ = some (.slice none 0 0) := (blk_cell BK419.out 1).trans rfl
          have hcz48_2 : w26.cell? ⟨gb419, 2, none⟩ = some (.slice Ao15 y416.length co15) := (blk_cell BK419.out 2).trans rfl
          have hfz48_0 := blk_frozen BK419.out 0
          have hfz48_1 := blk_frozen BK419.out 1
          have hfz48_2 := blk_frozen BK419.out 2
          go_wp2_with (first | ((with_reducible refine gate_callee (f := 14) rfl ?_); refine goesL_ (some 22) rfl rfl Try.func14 (by kernel_rfl) rfl #[.agg #[.int .i64 2, .slice none 0 0, .slice Ao15 y416.length co15]] rfl (by (try simp only [List.map_toArray, List.map_cons, List.map_nil]); first | done | rfl | (simp only [List.length_drop, List.length_take]; rfl)) ?_; (refine (dragomanref05_Great.calls k 2 _ _ ([] : List (S66)) _ _ y416 false _ ?side1 ?side2 ?side3 ?side4 A31.out).mono ?_); (case side1 => exact Kd.C_nil _ _); (case side2 => exact Nat.le_refl _); (case side3 => refine (Kd.N_reads' (e := 25) (base := w.heap.size) (ok := fun k_ => (((((P0_1_ k_ ∨ P0_2_ k_ ∨ P1_1_ k_ ∨ P1_2_ k_) ∨ w.heap.size ≤ k_) ∧ (k_ ≠ gb413 ∧ (k_ ≠ gb414 ∧ k_ ≠ gb419))) ∧ some k_ ≠ (.slice Ao25 y420.length co25 : Value).ownBlock) ∧ k_ ≠ gb423)) (n := y416.length) (c := co15) ?_).2.2; exact (by (with_reducible repeat (first | apply Kd.N_alloc | apply Kd.N_drewN | apply Kd.N_drew)); exact (Kd.N_mono (Kd.N_far (p := ⟨gb423, 2, none⟩) (Kd.N_far (p := ⟨gb423, 1, none⟩) (Kd.N_far (p := ⟨gb423, 0, none⟩) (Kd.N_mono HO418.out (fun k_ hk => (⟨hk, hk.2⟩ : _ ∧ k_ ≠ gb423))) (fun _ hk => hk.2) (.int .i64 3)) (fun _ hk => hk.2) (.slice none 0 0)) (fun _ hk => hk.2) (.slice Ao25 y420.length co25)) (fun _ h_ => h_.1)))); (case side4 => exact (Kd.N_reads' HO418.out).2.1); rintro e w49 ⟨rfl, hb⟩; refine ⟨_, rfl, ?_⟩; have n0_ := Aside0.mk (Kd.V_below (by (with_reducible repeat (first | apply Kd.V_alloc | apply Kd.V_drewN | apply Kd.V_drew)); exact (Kd.V_mono (Kd.V_far (p := ⟨gb423, 2, none⟩) (Kd.V_far (p := ⟨gb423, 1, none⟩) (Kd.V_far (p := ⟨gb423, 0, none⟩) (Kd.V_mono HO0_1.out (fun k_ hk => (⟨hk, hk.2⟩ : _ ∧ k_ ≠ gb423))) (fun _ hk => hk.2) (.int .i64 3)) (fun _ hk => hk.2) (.slice none 0 0)) (fun _ hk => hk.2) (.slice Ao25 y420.length co25)) (fun _ h_ => h_.1))) hb); have n1_ := Aside0.mk (Kd.V_below (by (with_reducible repeat (first | apply Kd.V_alloc | apply Kd.V_drewN | apply Kd.V_drew)); exact (Kd.V_mono (Kd.V_far (p := ⟨gb423, 2, none⟩) (Kd.V_far (p := ⟨gb423, 1, none⟩) (Kd.V_far (p := ⟨gb423, 0, none⟩) (Kd.V_mono HO0_2.out (fun k_ hk => (⟨hk, hk.2⟩ : _ ∧ k_ ≠ gb423))) (fun _ hk => hk.2) (.int .i64 3)) (fun _ hk => hk.2) (.slice none 0 0)) (fun _ hk => hk.2) (.slice Ao25 y420.length co25)) (fun _ h_ => h_.1))) hb); have n2_ := Aside0.mk (Kd.V_below (by (with_reducible repeat (first | apply Kd.V_alloc | apply Kd.V_drewN | apply Kd.V_drew)); exact (Kd.V_mono (Kd.V_far (p := ⟨gb423, 2, none⟩) (Kd.V_far (p := ⟨gb423, 1, none⟩) (Kd.V_far (p := ⟨gb423, 0, none⟩) (Kd.V_mono HO1_1.out (fun k_ hk => (⟨hk, hk.2⟩ : _ ∧ k_ ≠ gb423))) (fun _ hk => hk.2) (.int .i64 3)) (fun _ hk => hk.2) (.slice none 0 0)) (fun _ hk => hk.2) (.slice Ao25 y420.length co25)) (fun _ h_ => h_.1))) hb); have n3_ := Aside0.mk (Kd.V_below (by (with_reducible repeat (first | apply Kd.V_alloc | apply Kd.V_drewN | apply Kd.V_drew)); exact (Kd.V_mono (Kd.V_far (p := ⟨gb423, 2, none⟩) (Kd.V_far (p := ⟨gb423, 1, none⟩) (Kd.V_far (p := ⟨gb423, 0, none⟩) (Kd.V_mono HO1_2.out (fun k_ hk => (⟨hk, hk.2⟩ : _ ∧ k_ ≠ gb423))) (fun _ hk => hk.2) (.int .i64 3)) (fun _ hk => hk.2) (.slice none 0 0)) (fun _ hk => hk.2) (.slice Ao25 y420.length co25)) (fun _ h_ => h_.1))) hb); have n4_ := Aside0.mk (Kd.N_below (by (with_reducible repeat (first | apply Kd.N_alloc | apply Kd.N_drewN | apply Kd.N_drew)); exact (Kd.N_mono (Kd.N_far (p := ⟨gb423, 2, none⟩) (Kd.N_far (p := ⟨gb423, 1, none⟩) (Kd.N_far (p := ⟨gb423, 0, none⟩) (Kd.N_mono HO418.out (fun k_ hk => (⟨hk, hk.2⟩ : _ ∧ k_ ≠ gb423))) (fun _ hk => hk.2) (.int .i64 3)) (fun _ hk => hk.2) (.slice none 0 0)) (fun _ hk => hk.2) (.slice Ao25 y420.length co25)) (fun _ h_ => h_.1))) hb); have n5_ := Aside0.mk (Kd.N_below (by (with_reducible repeat (first | apply Kd.N_alloc | apply Kd.N_drewN | apply Kd.N_drew)); exact (Kd.N_mono (Kd.N_far (p := ⟨gb423, 2, none⟩) (Kd.N_far (p := ⟨gb423, 1, none⟩) (Kd.N_far (p := ⟨gb423, 0, none⟩) (Kd.N_mono HO422.out (fun k_ hk => (⟨hk, hk.2⟩ : _ ∧ k_ ≠ gb423))) (fun _ hk => hk.2) (.int .i64 3)) (fun _ hk => hk.2) (.slice none 0 0)) (fun _ hk => hk.2) (.slice Ao25 y420.length co25)) (fun _ h_ => h_.1))) hb); have n6_ := Aside0.mk (blk_below (g := gb413) (o := .cells #[.int .i64 a0_0, .slice A0_1 l0_1.length c0_1, .slice A0_2 l0_2.length c0_2] 25 (0, 0)) (by (with_reducible repeat (first | refine blk_drewN ?_ _ | refine blk_drew ?_ | refine blk_alloc ?_ _)); refine blk_far ?_ NB413_423.out _; (with_reducible repeat (first | refine blk_drewN ?_ _ | refine blk_drew ?_ | refine blk_alloc ?_ _)); refine blk_far ?_ NB413_423.out _; (with_reducible repeat (first | refine blk_drewN ?_ _ | refine blk_drew ?_ | refine blk_alloc ?_ _)); refine blk_far ?_ NB413_423.out _; (with_reducible repeat (first | refine blk_drewN ?_ _ | refine blk_drew ?_ | refine blk_alloc ?_ _)); exact BK413.out) hb); have n7_ := Aside0.mk (blk_below (g := gb414) (o := .cells #[.int .i64 a1_0, .slice A1_1 l1_1.length c1_1, .slice A1_2 l1_2.length c1_2] 25 (0, 0)) (by (with_reducible repeat (first | refine blk_drewN ?_ _ | refine blk_drew ?_ | refine blk_alloc ?_ _)); refine blk_far ?_ NB414_423.out _; (with_reducible repeat (first | refine blk_drewN ?_ _ | refine blk_drew ?_ | refine blk_alloc ?_ _)); refine blk_far ?_ NB414_423.out _; (with_reducible repeat (first | refine blk_drewN ?_ _ | refine blk_drew ?_ | refine blk_alloc ?_ _)); refine blk_far ?_ NB414_423.out _; (with_reducible repeat (first | refine blk_drewN ?_ _ | refine blk_drew ?_ | refine blk_alloc ?_ _)); exact BK414.out) hb); have n8_ := Aside0.mk (blk_below (g := gb419) (o := .cells #[.int .i64 2, .slice none 0 0, .slice Ao15 y416.length co15] 25 (0, 0)) (by (with_reducible repeat (first | refine blk_drewN ?_ _ | refine blk_drew ?_ | refine blk_alloc ?_ _)); refine blk_far ?_ NB419_423.out _; (with_reducible repeat (first | refine blk_drewN ?_ _ | refine blk_drew ?_ | refine blk_alloc ?_ _)); refine blk_far ?_ NB419_423.out _; (with_reducible repeat (first | refine blk_drewN ?_ _ | refine blk_drew ?_ | refine blk_alloc ?_ _)); refine blk_far ?_ NB419_423.out _; (with_reducible repeat (first | refine blk_drewN ?_ _ | refine blk_drew ?_ | refine blk_alloc ?_ _)); exact BK419.out) hb); have n9_ := Aside0.mk (blk_below (g := gb423) (o := .cells #[.int .i64 3, .slice none 0 0, .slice Ao25 y420.length co25] 25 (0, 0)) (by (with_reducible repeat (first | refine blk_drewN ?_ _ | refine blk_drew ?_ | refine blk_alloc ?_ _)); refine blk_put (cs := #[.int .i64 3, .slice none 0 0, .slice none 0 0]) ?_ 2 _ rfl; (with_reducible repeat (first | refine blk_drewN ?_ _ | refine blk_drew ?_ | refine blk_alloc ?_ _)); refine blk_put (cs := #[.int .i64 3, .slice none 0 0, .slice none 0 0]) ?_ 1 _ rfl; (with_reducible repeat (first | refine blk_drewN ?_ _ | refine blk_drew ?_ | refine blk_alloc ?_ _)); refine blk_put (cs := #[.int .i64 0, .slice none 0 0, .slice none 0 0]) ?_ 0 _ rfl; (with_reducible repeat (first | refine blk_drewN ?_ _ | refine blk_drew ?_ | refine blk_alloc ?_ _)); exact BK423.out) hb); have n10_ := Aside0.mk (below_step (by repeat (first | (with_reducible first | exact HB.out | apply below_alloc | apply pw_below_drewN | apply below_drew1 | refine below_set ?_ GE413.out | refine below_set ?_ GE414.out | refine below_set ?_ GE419.out | refine below_set ?_ GE423.out) | exact HB.out)) hb); clear HO0_1; clear HO0_2; clear HO1_1; clear HO1_2; clear HO418; clear HO422; clear BK413; clear BK414; clear BK419; clear BK423; clear HB; have HO0_1 := n0_; have HO0_2 := n1_; have HO1_1 := n2_; have HO1_2 := n3_; have HO418 := n4_; have HO422 := n5_; have BK413 := n6_; have BK414 := n7_; have BK419 := n8_; have BK423 := n9_; have HB := n10_; clear n0_ n1_ n2_ n3_ n4_ n5_ n6_ n7_ n8_ n9_ n10_; (try clear hb); (try clear hb2); (try clear hk); (try clear hi); have hcz50_0 : w49.cell? ⟨gb419, 0, none⟩ = some (.int .i64 2) := (blk_cell BK419.out 0).trans rfl; have hcz50_1 : w49.cell? ⟨gb419, 1, none⟩ = some (.slice none 0 0) := (blk_cell BK419.out 1).trans rfl; have hcz50_2 : w49.cell? ⟨gb419, 2, none⟩ = some (.slice Ao15 y416.length co15) := (blk_cell BK419.out 2).trans rfl; have hfz50_0 := blk_frozen BK419.out 0; have hfz50_1 := blk_frozen BK419.out 1; have hfz50_2 := blk_frozen BK419.out 2) | (go_at_call 16; (refine (pat_Right.calls k 2 _ _ ([] : List (S66)) _ _ y416 t425 _ ?side1 ?side2 ?side3 ?side4 A44.out).mono ?_); (case side1 => exact Kd.C_nil _ _); (case side2 => exact Nat.le_refl _); (case side3 => repeat (first | exact (Kd.N_reads' HO418.out).2.2 | (with_reducible refine Kd.C_alloc ?_ _) | (with_reducible refine Kd.C_drewN ?_ _) | (with_reducible refine Kd.C_drew ?_))); (case side4 => exact (Kd.N_reads' HO418.out).2.1); rintro e w51 ⟨rfl, hb⟩; have n0_ := Aside0.mk (Kd.V_below (by (with_reducible repeat (first | apply Kd.V_alloc | apply Kd.V_drewN | apply Kd.V_drew)); exact HO0_1.out) hb); have n1_ := Aside0.mk (Kd.V_below (by (with_reducible repeat (first | apply Kd.V_alloc | apply Kd.V_drewN | apply Kd.V_drew)); exact HO0_2.out) hb); have n2_ := Aside0.mk (Kd.V_below (by (with_reducible repeat (first | apply Kd.V_alloc | apply Kd.V_drewN | apply Kd.V_drew)); exact HO1_1.out) hb); have n3_ := Aside0.mk (Kd.V_below (by (with_reducible repeat (first | apply Kd.V_alloc | apply Kd.V_drewN | apply Kd.V_drew)); exact HO1_2.out) hb); have n4_ := Aside0.mk (Kd.N_below (by (with_reducible repeat (first | apply Kd.N_alloc | apply Kd.N_drewN | apply Kd.N_drew)); exact HO418.out) hb); have n5_ := Aside0.mk (Kd.N_below (by (with_reducible repeat (first | apply Kd.N_alloc | apply Kd.N_drewN | apply Kd.N_drew)); exact HO422.out) hb); have n6_ := Aside0.mk (blk_below (g := gb413) (o := .cells #[.int .i64 a0_0, .slice A0_1 l0_1.length c0_1, .slice A0_2 l0_2.length c0_2] 25 (0, 0)) (by (with_reducible repeat (first | refine blk_drewN ?_ _ | refine blk_drew ?_ | refine blk_alloc ?_ _)); exact BK413.out) hb); have n7_ := Aside0.mk (blk_below (g := gb414) (o := .cells #[.int .i64 a1_0, .slice A1_1 l1_1.length c1_1, .slice A1_2 l1_2.length c1_2] 25 (0, 0)) (by (with_reducible repeat (first | refine blk_drewN ?_ _ | refine blk_drew ?_ | refine blk_alloc ?_ _)); exact BK414.out) hb); have n8_ := Aside0.mk (blk_below (g := gb419) (o := .cells #[.int .i64 2, .slice none 0 0, .slice Ao15 y416.length co15] 25 (0, 0)) (by (with_reducible repeat (first | refine blk_drewN ?_ _ | refine blk_drew ?_ | refine blk_alloc ?_ _)); exact BK419.out) hb); have n9_ := Aside0.mk (blk_below (g := gb423) (o := .cells #[.int .i64 3, .slice none 0 0, .slice Ao25 y420.length co25] 25 (0, 0)) (by (with_reducible repeat (first | refine blk_drewN ?_ _ | refine blk_drew ?_ | refine blk_alloc ?_ _)); exact BK423.out) hb); have n10_ := Aside0.mk (below_step (by repeat (first | (with_reducible first | exact HB.out | apply below_alloc | apply pw_below_drewN | apply below_drew1 | refine below_set ?_ GE413.out | refine below_set ?_ GE414.out | refine below_set ?_ GE419.out | refine below_set ?_ GE423.out) | exact HB.out)) hb); clear HO0_1; clear HO0_2; clear HO1_1; clear HO1_2; clear HO418; clear HO422; clear BK413; clear BK414; clear BK419; clear BK423; clear HB; have HO0_1 := n0_; have HO0_2 := n1_; have HO1_1 := n2_; have HO1_2 := n3_; have HO418 := n4_; have HO422 := n5_; have BK413 := n6_; have BK414 := n7_; have BK419 := n8_; have BK423 := n9_; have HB := n10_; clear n0_ n1_ n2_ n3_ n4_ n5_ n6_ n7_ n8_ n9_ n10_; (try clear hb); (try clear hb2); (try clear hk); (try clear hi)))
          go_meet
          case rel => exact ⟨_, (!t425), (by first | rfl | (simp; done) | (simp [*]; done)), H', ⟨by first | omega | exact Nat.le_refl _⟩, ⟨by (with_reducible repeat (first | apply Kd.V_alloc | apply Kd.V_drewN | apply Kd.V_drew)); exact Kd.V_mono HO0_1.out (fun _ hk => ⟨hk.1.1.1, ⟨hk.1.1.2.1, ⟨hk.1.2, ⟨hk.1.1.2.2.1, ⟨hk.1.1.2.2.2.1, ⟨hk.1.1.2.2.2.2, hk.2⟩⟩⟩⟩⟩⟩)⟩, ⟨by (with_reducible repeat (first | apply Kd.V_alloc | apply Kd.V_drewN | apply Kd.V_drew)); exact Kd.V_mono HO0_2.out (fun _ hk => ⟨hk.1.1.1, ⟨hk.1.1.2.1, ⟨hk.1.2, ⟨hk.1.1.2.2.1, ⟨hk.1.1.2.2.2.1, ⟨hk.1.1.2.2.2.2, hk.2⟩⟩⟩⟩⟩⟩)⟩, ⟨by (with_reducible repeat (first | apply Kd.V_alloc | apply Kd.V_drewN | apply Kd.V_drew)); exact Kd.V_mono HO1_1.out (fun _ hk => ⟨hk.1.1.1, ⟨hk.1.1.2.1, ⟨hk.1.2, ⟨hk.1.1.2.2.1, ⟨hk.1.1.2.2.2.1, ⟨hk.1.1.2.2.2.2, hk.2⟩⟩⟩⟩⟩⟩)⟩, ⟨by (with_reducible repeat (first | apply Kd.V_alloc | apply Kd.V_drewN | apply Kd.V_drew)); exact Kd.V_mono HO1_2.out (fun _ hk => ⟨hk.1.1.1, ⟨hk.1.1.2.1, ⟨hk.1.2, ⟨hk.1.1.2.2.1, ⟨hk.1.1.2.2.2.1, ⟨hk.1.1.2.2.2.2, hk.2⟩⟩⟩⟩⟩⟩)⟩, ⟨by (with_reducible repeat (first | apply Kd.N_alloc | apply Kd.N_drewN | apply Kd.N_drew)); exact Kd.N_mono HO418.out (fun _ hk => ⟨hk.1.1.1, ⟨hk.1.2, ⟨hk.1.1.2.1, ⟨hk.1.1.2.2.1, ⟨hk.1.1.2.2.2, hk.2⟩⟩⟩⟩⟩)⟩, ⟨by (with_reducible repeat (first | apply Kd.N_alloc | apply Kd.N_drewN | apply Kd.N_drew)); exact Kd.N_mono HO422.out (fun _ hk => ⟨hk.1.1, ⟨hk.1.2.1, ⟨hk.1.2.2.1, ⟨hk.1.2.2.2.1, ⟨hk.1.2.2.2.2, hk.2⟩⟩⟩⟩⟩)⟩, ⟨by (with_reducible repeat (first | refine blk_drewN ?_ _ | refine blk_drew ?_ | refine blk_alloc ?_ _)); exact BK413.out⟩, ⟨by (with_reducible repeat (first | refine blk_drewN ?_ _ | refine blk_drew ?_ | refine blk_alloc ?_ _)); exact BK414.out⟩, ⟨by (with_reducible repeat (first | refine blk_drewN ?_ _ | refine blk_drew ?_ | refine blk_alloc ?_ _)); exact BK419.out⟩, ⟨by (with_reducible repeat (first | refine blk_drewN ?_ _ | refine blk_drew ?_ | refine blk_alloc ?_ _)); exact BK423.out⟩, ⟨by repeat (first | (with_reducible first | exact HB.out | apply below_alloc | apply pw_below_drewN | apply below_drew1 | refine below_set ?_ GE413.out | refine below_set ?_ GE414.out | refine below_set ?_ GE419.out | refine below_set ?_ GE423.out) | exact HB.out)⟩⟩
    case rest =>
      clear HC6
      try clear c1
      try clear c2
      try clear p2
      try clear c3
      try clear c4
      try clear c5
      try clear c10
      try clear c13
      try clear c14
      try clear c17
      try clear c18
      try clear c27
      try clear c28
      try clear c29
      try clear c32
      try clear c33
      try clear c34
      try clear c35
      try clear c38
      try clear c38b0
      try clear c38b1
      try clear c39
      try clear c40
      try clear c41
      try clear c45
      try clear c46
      try clear c47
      try clear hcz11_0
      try clear hcz11_1
      try clear hcz11_2
      try clear hcz12_0
      try clear hcz12_1
      try clear hcz12_2
      try clear hcz19_0
      try clear hcz19_1
      try clear hcz19_2
      try clear hcz21_0
      try clear hcz21_1
      try clear hcz21_2
      try clear hcz22_0
      try clear hcz22_1
      try clear hcz22_2
      try clear hcz30_0
      try clear hcz30_1
      try clear hcz30_2
      try clear hcz36_0
      try clear hcz36_1
      try clear hcz36_2
      try clear hcz42_0
      try clear hcz42_1
      try clear hcz42_2
      try clear hcz48_0
      try clear hcz48_1
      try clear hcz48_2
      try clear hcz50_0
      try clear hcz50_1
      try clear hcz50_2
      try clear hfz11_0
      try clear hfz11_1
      try clear hfz11_2
      try clear hfz12_0
      try clear hfz12_1
      try clear hfz12_2
      try clear hfz19_0
      try clear hfz19_1
      try clear hfz19_2
      try clear hfz21_0
      try clear hfz21_1
      try clear hfz21_2
      try clear hfz22_0
      try clear hfz22_1
      try clear hfz22_2
      try clear hfz30_0
      try clear hfz30_1
      try clear hfz30_2
      try clear hfz36_0
      try clear hfz36_1
      try clear hfz36_2
      try clear hfz42_0
      try clear hfz42_1
      try clear hfz42_2
      try clear hfz48_0
      try clear hfz48_1
      try clear hfz48_2
      try clear hfz50_0
      try clear hfz50_1
      try clear hfz50_2
      obtain ⟨kq, x32_5, rfl, HA, HJ5, HO_414001, HO_414002, HO_415001, HO_415002, HO_420002, HO_424002, BK413, BK414, BK419, BK423, HB⟩ := hcut
      cases kq with
      | zero => exact absurd HA.out (by simp [dragomanlaw05_PatJoins.j0])
      | succ kj5 =>
        have H := HA.out
        clear HA
        simp only [dragomanlaw05_PatJoins.j0] at H
        by_cases c52 : x32_5 = true
        · subst c52
          have H1 : (some true) = some r := by rw [if_pos rfl] at H; exact H
          clear H
          have H := H1
          clear H1
          obtain rfl := Option.some.inj H
          go_wp2
          first | go_ret | refine ⟨_, results_tmp rfl _ _ _, ?_⟩
          exact ⟨by first | rfl | (simp [errW_none, errW_some] <;> rfl) | (simp [*, errW_none, errW_some] <;> rfl), by repeat (first | (with_reducible first | exact HB.out | apply below_alloc | apply pw_below_drewN | apply below_drew1 | refine below_set ?_ GE413.out | refine below_set ?_ GE414.out | refine below_set ?_ GE419.out | refine below_set ?_ GE423.out) | exact HB.out)⟩
        · replace c52 := Bool.eq_false_iff.mpr c52
          subst c52
          have H1 : (dragomanlaw05_PatJoins.l0 kj5 l2 false (wrap64 ((l2.length : Int) + 1)) 0 a0_0 l0_1 l0_2 a1_0 l1_1 l1_2 2 y416 3 y420) = some r := by rw [if_neg (show ¬ (false = true) by decide)] at H; exact H
          clear H
          have H := H1
          clear H1
          have H' := Aside0.mk H
          clear H
          go_wp2
          go_loopg [9, 36] kj5 (fun kq v9 v36 w' => ∃ (x9_2 : Bool) (x36_2 : Int), v9 = .bool x9_2 ∧ v36 = .int .i64 x36_2 ∧ Aside0 (dragomanlaw05_PatJoins.l0 kq l2 x9_2 (wrap64 ((l2.length : Int) + 1)) x36_2 a0_0 l0_1 l0_2 a1_0 l1_1 l1_2 2 y416 3 y420 = some r) ∧ Aside0 (kq ≤ kj5) ∧ Aside0 (Kd.V k66 66 w' w.heap.size (fun k_ => ((P0_1_ k_ ∨ P0_2_ k_ ∨ P1_1_ k_ ∨ P1_2_ k_) ∨ w.heap.size ≤ k_) ∧ some k_ ≠ ((.slice Ao15 y416.length co15) : Value).ownBlock ∧ some k_ ≠ ((.slice Ao25 y420.length co25) : Value).ownBlock ∧ k_ ≠ gb413 ∧ k_ ≠ gb414 ∧ k_ ≠ gb419 ∧ k_ ≠ gb423) (.slice A0_1 l0_1.length c0_1) l0_1) ∧ Aside0 (Kd.V k25 25 w' w.heap.size (fun k_ => ((P0_1_ k_ ∨ P0_2_ k_ ∨ P1_1_ k_ ∨ P1_2_ k_) ∨ w.heap.size ≤ k_) ∧ some k_ ≠ ((.slice Ao15 y416.length co15) : Value).ownBlock ∧ some k_ ≠ ((.slice Ao25 y420.length co25) : Value).ownBlock ∧ k_ ≠ gb413 ∧ k_ ≠ gb414 ∧ k_ ≠ gb419 ∧ k_ ≠ gb423) (.slice A0_2 l0_2.length c0_2) l0_2) ∧ Aside0 (Kd.V k66 66 w' w.heap.size (fun k_ => ((P0_1_ k_ ∨ P0_2_ k_ ∨ P1_1_ k_ ∨ P1_2_ k_) ∨ w.heap.size ≤ k_) ∧ some k_ ≠ ((.slice Ao15 y416.length co15) : Value).ownBlock ∧ some k_ ≠ ((.slice Ao25 y420.length co25) : Value).ownBlock ∧ k_ ≠ gb413 ∧ k_ ≠ gb414 ∧ k_ ≠ gb419 ∧ k_ ≠ gb423) (.slice A1_1 l1_1.length c1_1) l1_1) ∧ Aside0 (Kd.V k25 25 w' w.heap.size (fun k_ => ((P0_1_ k_ ∨ P0_2_ k_ ∨ P1_1_ k_ ∨ P1_2_ k_) ∨ w.heap.size ≤ k_) ∧ some k_ ≠ ((.slice Ao15 y416.length co15) : Value).ownBlock ∧ some k_ ≠ ((.slice Ao25 y420.length co25) : Value).ownBlock ∧ k_ ≠ gb413 ∧ k_ ≠ gb414 ∧ k_ ≠ gb419 ∧ k_ ≠ gb423) (.slice A1_2 l1_2.length c1_2) l1_2) ∧ Aside0 (Kd.N k25 25 w' w.heap.size (fun k_ => ((P0_1_ k_ ∨ P0_2_ k_ ∨ P1_1_ k_ ∨ P1_2_ k_) ∨ w.heap.size ≤ k_) ∧ some k_ ≠ ((.slice Ao25 y420.length co25) : Value).ownBlock ∧ k_ ≠ gb413 ∧ k_ ≠ gb414 ∧ k_ ≠ gb419 ∧ k_ ≠ gb423) (.slice Ao15 y416.length co15) y416) ∧ Aside0 (Kd.N k25 25 w' w.heap.size (fun k_ => ((P0_1_ k_ ∨ P0_2_ k_ ∨ P1_1_ k_ ∨ P1_2_ k_) ∨ w.heap.size ≤ k_) ∧ some k_ ≠ ((.slice Ao15 y416.length co15) : Value).ownBlock ∧ k_ ≠ gb413 ∧ k_ ≠ gb414 ∧ k_ ≠ gb419 ∧ k_ ≠ gb423) (.slice Ao25 y420.length co25) y420) ∧ Aside0 (w'.heap[gb413]? = some (.cells #[.int .i64 a0_0, (.slice A0_1 l0_1.length c0_1), (.slice A0_2 l0_2.length c0_2)] 25 (0, 0))) ∧ Aside0 (w'.heap[gb414]? = some (.cells #[.int .i64 a1_0, (.slice A1_1 l1_1.length c1_1), (.slice A1_2 l1_2.length c1_2)] 25 (0, 0))) ∧ Aside0 (w'.heap[gb419]? = some (.cells #[.int .i64 2, (.slice none 0 0), (.slice Ao15 y416.length co15)] 25 (0, 0))) ∧ Aside0 (w'.heap[gb423]? = some (.cells #[.int .i64 3, (.slice none 0 0), (.slice Ao25 y420.length co25)] 25 (0, 0))) ∧ Aside0 (Below w.heap.size w w'))
          case atStart => exact ⟨(false), (0), (by first | rfl | (simp; done) | (simp [*]; done)), (by first | rfl | (simp; done) | (simp [*]; done)), H', ⟨Nat.le_refl _⟩, ⟨by (with_reducible repeat (first | apply Kd.V_alloc | apply Kd.V_drewN | apply Kd.V_drew)); exact HO_414001.out⟩, ⟨by (with_reducible repeat (first | apply Kd.V_alloc | apply Kd.V_drewN | apply Kd.V_drew)); exact HO_414002.out⟩, ⟨by (with_reducible repeat (first | apply Kd.V_alloc | apply Kd.V_drewN | apply Kd.V_drew)); exact HO_415001.out⟩, ⟨by (with_reducible repeat (first | apply Kd.V_alloc | apply Kd.V_drewN | apply Kd.V_drew)); exact HO_415002.out⟩, ⟨by (with_reducible repeat (first | apply Kd.N_alloc | apply Kd.N_drewN | apply Kd.N_drew)); exact HO_420002.out⟩, ⟨by (with_reducible repeat (first | apply Kd.N_alloc | apply Kd.N_drewN | apply Kd.N_drew)); exact HO_424002.out⟩, ⟨by (with_reducible repeat (first | refine blk_drewN ?_ _ | refine blk_drew ?_ | refine blk_alloc ?_ _)); exact BK413.out⟩, ⟨by (with_reducible repeat (first | refine blk_drewN ?_ _ | refine blk_drew ?_ | refine blk_alloc ?_ _)); exact BK414.out⟩, ⟨by (with_reducible repeat (first | refine blk_drewN ?_ _ | refine blk_drew ?_ | refine blk_alloc ?_ _)); exact BK419.out⟩, ⟨by (with_reducible repeat (first | refine blk_drewN ?_ _ | refine blk_drew ?_ | refine blk_alloc ?_ _)); exact BK423.out⟩, ⟨by repeat (first | (with_reducible first | exact HB.out | apply below_alloc | apply pw_below_drewN | apply below_drew1 | refine below_set ?_ GE413.out | refine below_set ?_ GE414.out | refine below_set ?_ GE419.out | refine below_set ?_ GE423.out) | exact HB.out)⟩⟩
          case round =>
            clear H'
            try clear c1
            try clear c2
            try clear p2
            try clear c3
            try clear c4
            try clear c5
            try clear p6
            try clear c10
            try clear c13
            try clear c14
            try clear c17
            try clear c18
            try clear c27
            try clear c28
            try clear c29
            try clear c32
            try clear c33
            try clear c34
            try clear c35
            try clear c38
            try clear c38b0
            try clear c38b1
            try clear c39
            try clear c40
            try clear c41
            try clear c45
            try clear c46
            try clear c47
            try clear c52
            try clear hcz11_0
            try clear hcz11_1
            try clear hcz11_2
            try clear hcz12_0
            try clear hcz12_1
            try clear hcz12_2
            try clear hcz19_0
            try clear hcz19_1
            try clear hcz19_2
            try clear hcz21_0
            try clear hcz21_1
            try clear hcz21_2
            try clear hcz22_0
            try clear hcz22_1
            try clear hcz22_2
            try clear hcz30_0
            try clear hcz30_1
            try clear hcz30_2
            try clear hcz36_0
            try clear hcz36_1
            try clear hcz36_2
            try clear hcz42_0
            try clear hcz42_1
            try clear hcz42_2
            try clear hcz48_0
            try clear hcz48_1
            try clear hcz48_2
            try clear hcz50_0
            try clear hcz50_1
            try clear hcz50_2
            try clear hfz11_0
            try clear hfz11_1
            try clear hfz11_2
            try clear hfz12_0
            try clear hfz12_1
            try clear hfz12_2
            try clear hfz19_0
            try clear hfz19_1
            try clear hfz19_2
            try clear hfz21_0
            try clear hfz21_1
            try clear hfz21_2
            try clear hfz22_0
            try clear hfz22_1
            try clear hfz22_2
            try clear hfz30_0
            try clear hfz30_1
            try clear hfz30_2
            try clear hfz36_0
            try clear hfz36_1
            try clear hfz36_2
            try clear hfz42_0
            try clear hfz42_1
            try clear hfz42_2
            try clear hfz48_0
            try clear hfz48_1
            try clear hfz48_2
            try clear hfz50_0
            try clear hfz50_1
            try clear hfz50_2
            try clear p2
            obtain ⟨x9_2, x36_2, rfl, rfl, HA, HK2, HO_414001, HO_414002, HO_415001, HO_415002, HO_420002, HO_424002, BK413, BK414, BK419, BK423, HB⟩ := hrel
            cases gk with
            | zero => exact absurd HA.out (by simp [dragomanlaw05_PatJoins.l0])
            | succ k2 =>
              have H := HA.out
              clear HA
              simp only [dragomanlaw05_PatJoins.l0] at H
              by_cases c53 : x36_2 < (wrap64 ((l2.length : Int) + 1))
              · rw [if_pos c53] at H
                have c53b0 : decide (x36_2 < (wrap64 ((l2.length : Int) + 1))) = true := decide_eq_true c53
                clear c53
                by_cases c54 : x9_2 = true
                · subst c54
                  have H1 : (dragomanlaw05_PatJoins.l0 k2 l2 true (wrap64 ((l2.length : Int) + 1)) (wrap64 (x36_2 + 1)) a0_0 l0_1 l0_2 a1_0 l1_1 l1_2 2 y416 3 y420) = some r := by rw [if_pos rfl] at H; exact H
                  clear H
                  have H := H1
                  clear H1
                  have H' := Aside0.mk H
                  clear H
                  try go_wp2
                  have n0_ := Aside0.mk (Kd.V_drew HO_414001.out)
                  have n1_ := Aside0.mk (Kd.V_drew HO_414002.out)
                  have n2_ := Aside0.mk (Kd.V_drew HO_415001.out)
                  have n3_ := Aside0.mk (Kd.V_drew HO_415002.out)
                  have n4_ := Aside0.mk (Kd.N_drew HO_420002.out)
                  have n5_ := Aside0.mk (Kd.N_drew HO_424002.out)
                  have n6_ := Aside0.mk (blk_drew BK413.out)
                  have n7_ := Aside0.mk (blk_drew BK414.out)
                  have n8_ := Aside0.mk (blk_drew BK419.out)
                  have n9_ := Aside0.mk (blk_drew BK423.out)
                  have n10_ := Aside0.mk (below_drew1 HB.out)
                  clear HO_414001
                  clear HO_414002
                  clear HO_415001
                  clear HO_415002
                  clear HO_420002
                  clear HO_424002
                  clear BK413
                  clear BK414
                  clear BK419
                  clear BK423
                  clear HB
                  have HO_414001 := n0_
                  have HO_414002 := n1_
                  have HO_415001 := n2_
                  have HO_415002 := n3_
                  have HO_420002 := n4_
                  have HO_424002 := n5_
                  have BK413 := n6_
                  have BK414 := n7_
                  have BK419 := n8_
                  have BK423 := n9_
                  have HB := n10_
                  clear n0_ n1_ n2_ n3_ n4_ n5_ n6_ n7_ n8_ n9_ n10_
                  refine start_ (n := 16) (S := fun w' => True) (ds := []) #[false, false, false, false, false, false, false, false, false, false, false, false, false, false, false, false] (by kernel_rfl) rfl rfl trivial (fun hHeld => ?_); refine with_tabW dragomanlaw05_PatJoins.tab11 dragomanlaw05_PatJoins.bits11 (fun HT_ HW_ => ?_)
                  generalize wr.drew = w55 at HO_414001 HO_414002 HO_415001 HO_415002 HO_420002 HO_424002 BK413 BK414 BK419 BK423 HB hHeld ⊢
                  refine pure_ (i := 0) (N := some 39) (v := ?_) (a' := ?_) #[true, false, false, false, false, false, false, false, false, false, false, false, false, false, false, false] rfl rfl (any_of HT_.out (by kernel_rfl)) (fun _ _ _ h => h) (Or.inl ⟨by rfl, ?_⟩) ?_ ?_
                  rotate_left
                  · intro w'
                    go_simp
                    with_reducible rfl
                  rotate_left
                  · simp only [Act.put, List.setIfInBounds_toArray, List.set_cons_zero, List.set_cons_succ, i64_w, i32_w]
                    rfl
                  refine pure_ (i := 1) (N := some 40) (v := ?_) (a' := ?_) #[true, true, false, false, false, false, false, false, false, false, false, false, false, false, false, false] rfl rfl (any_of HT_.out (by kernel_rfl)) (fun _ _ _ h => h) (Or.inl ⟨by rfl, ?_⟩) ?_ ?_
                  rotate_left
                  · intro w'
                    go_simp
                    with_reducible rfl
                  rotate_left
                  · simp only [Act.put, List.setIfInBounds_toArray, List.set_cons_zero, List.set_cons_succ, i64_w, i32_w]
                    rfl
                  refine pure_ (i := 2) (N := some 41) (v := undef) (a' := ?_) #[true, true, true, false, false, false, false, false, false, false, false, false, false, false, false, false] rfl rfl (any_of HT_.out (by kernel_rfl)) (fun _ _ _ h => h) (Or.inr ⟨by rfl, rfl⟩) ?_ ?_
                  rotate_left
                  · simp only [Act.put, List.setIfInBounds_toArray, List.set_cons_zero, List.set_cons_succ, i64_w, i32_w]
                    rfl
                  refine pure_ (i := 3) (N := some 42) (v := undef) (a' := ?_) #[true, true, true, true, false, false, false, false, false, false, false, false, false, false, false, false] rfl rfl (any_of HT_.out (by kernel_rfl)) (fun _ _ _ h => h) (Or.inr ⟨by rfl, rfl⟩) ?_ ?_
                  rotate_left
                  · simp only [Act.put, List.setIfInBounds_toArray, List.set_cons_zero, List.set_cons_succ, i64_w, i32_w]
                    rfl
                  refine pure_ (i := 4) (N := some 43) (v := undef) (a' := ?_) #[true, true, true, true, true, false, false, false, false, false, false, false, false, false, false, false] rfl rfl (any_of HT_.out (by kernel_rfl)) (fun _ _ _ h => h) (Or.inr ⟨by rfl, rfl⟩) ?_ ?_
                  rotate_left
                  · simp only [Act.put, List.setIfInBounds_toArray, List.set_cons_zero, List.set_cons_succ, i64_w, i32_w]
                    rfl
                  refine pure_ (i := 5) (N := some 44) (v := undef) (a' := ?_) #[true, true, true, true, true, true, false, false, false, false, false, false, false, false, false, false] rfl rfl (any_of HT_.out (by kernel_rfl)) (fun _ _ _ h => h) (Or.inr ⟨by rfl, rfl⟩) ?_ ?_
                  rotate_left
                  · simp only [Act.put, List.setIfInBounds_toArray, List.set_cons_zero, List.set_cons_succ, i64_w, i32_w]
                    rfl
                  refine pure_ (i := 6) (N := some 45) (v := undef) (a' := ?_) #[true, true, true, true, true, true, true, false, false, false, false, false, false, false, false, false] rfl rfl (any_of HT_.out (by kernel_rfl)) (fun _ _ _ h => h) (Or.inr ⟨by rfl, rfl⟩) ?_ ?_
                  rotate_left
                  · simp only [Act.put, List.setIfInBounds_toArray, List.set_cons_zero, List.set_cons_succ, i64_w, i32_w]
                    rfl
                  refine pure_ (i := 7) (N := some 46) (v := undef) (a' := ?_) #[true, true, true, true, true, true, true, true, false, false, false, false, false, false, false, false] rfl rfl (any_of HT_.out (by kernel_rfl)) (fun _ _ _ h => h) (Or.inr ⟨by rfl, rfl⟩) ?_ ?_
                  rotate_left
                  · simp only [Act.put, List.setIfInBounds_toArray, List.set_cons_zero, List.set_cons_succ, i64_w, i32_w]
                    rfl
                  refine pure_ (i := 8) (N := some 47) (v := undef) (a' := ?_) #[true, true, true, true, true, true, true, true, true, false, false, false, false, false, false, false] rfl rfl (any_of HT_.out (by kernel_rfl)) (fun _ _ _ h => h) (Or.inr ⟨by rfl, rfl⟩) ?_ ?_
                  rotate_left
                  · simp only [Act.put, List.setIfInBounds_toArray, List.set_cons_zero, List.set_cons_succ, i64_w, i32_w]
                    rfl
                  refine pure_ (i := 9) (N := some 48) (v := undef) (a' := ?_) #[true, true, true, true, true, true, true, true, true, true, false, false, false, false, false, false] rfl rfl (any_of HT_.out (by kernel_rfl)) (fun _ _ _ h => h) (Or.inr ⟨by rfl, rfl⟩) ?_ ?_
                  rotate_left
                  · simp only [Act.put, List.setIfInBounds_toArray, List.set_cons_zero, List.set_cons_succ, i64_w, i32_w]
                    rfl
                  refine pure_ (i := 10) (N := some 49) (v := undef) (a' := ?_) #[true, true, true, true, true, true, true, true, true, true, true, false, false, false, false, false] rfl rfl (any_of HT_.out (by kernel_rfl)) (fun _ _ _ h => h) (Or.inr ⟨by rfl, rfl⟩) ?_ ?_
                  rotate_left
                  · simp only [Act.put, List.setIfInBounds_toArray, List.set_cons_zero, List.set_cons_succ, i64_w, i32_w]
                    rfl
                  refine pure_ (i := 11) (N := some 50) (v := undef) (a' := ?_) #[true, true, true, true, true, true, true, true, true, true, true, true, false, false, false, false] rfl rfl (any_of HT_.out (by kernel_rfl)) (fun _ _ _ h => h) (Or.inr ⟨by rfl, rfl⟩) ?_ ?_
                  rotate_left
                  · simp only [Act.put, List.setIfInBounds_toArray, List.set_cons_zero, List.set_cons_succ, i64_w, i32_w]
                    rfl
                  refine pure_ (i := 12) (N := some 51) (v := undef) (a' := ?_) #[true, true, true, true, true, true, true, true, true, true, true, true, true, false, false, false] rfl rfl (any_of HT_.out (by kernel_rfl)) (fun _ _ _ h => h) (Or.inr ⟨by rfl, rfl⟩) ?_ ?_
                  rotate_left
                  · simp only [Act.put, List.setIfInBounds_toArray, List.set_cons_zero, List.set_cons_succ, i64_w, i32_w]
                    rfl
                  refine pure_ (i := 13) (N := some 52) (v := undef) (a' := ?_) #[true, true, true, true, true, true, true, true, true, true, true, true, true, true, false, false] rfl rfl (any_of HT_.out (by kernel_rfl)) (fun _ _ _ h => h) (Or.inr ⟨by rfl, rfl⟩) ?_ ?_
                  rotate_left
                  · simp only [Act.put, List.setIfInBounds_toArray, List.set_cons_zero, List.set_cons_succ, i64_w, i32_w]
                    rfl
                  refine pure_ (i := 14) (N := some 53) (v := ?_) (a' := ?_) #[true, true, true, true, true, true, true, true, true, true, true, true, true, true, true, false] rfl rfl (any_of HT_.out (by kernel_rfl)) (fun _ _ _ h => h) (Or.inl ⟨by rfl, ?_⟩) ?_ ?_
                  rotate_left
                  · intro w'
                    go_simp
                    with_reducible rfl
                  rotate_left
                  · simp only [Act.put, List.setIfInBounds_toArray, List.set_cons_zero, List.set_cons_succ, i64_w, i32_w]
                    rfl
                  refine pure_ (i := 15) (N := some 9) (v := ?_) (a' := ?_) #[true, true, true, true, true, true, true, true, true, true, true, true, true, true, true, true] rfl rfl (any_of HT_.out (by kernel_rfl)) (fun _ _ _ h => h) (Or.inl ⟨by rfl, ?_⟩) ?_ ?_
                  rotate_left
                  · intro w'
                    go_simp
                    with_reducible rfl
                  rotate_left
                  · simp only [Act.put, List.setIfInBounds_toArray, List.set_cons_zero, List.set_cons_succ, i64_w, i32_w]
                    rfl
                  refine done_ (done_of HT_.out (by kernel_rfl)) ?_
                  try go_wp2
                  go_roundg k2
                  case measure => have := HJ5.out; have := HK2.out; omega
                  case rel => exact ⟨(true), (wrap64 (x36_2 + 1)), (by first | rfl | (simp; done) | (simp [*]; done)), (by first | rfl | (simp; done) | (simp [*]; done)), H', ⟨by have := HJ5.out; have := HK2.out; omega⟩, ⟨by (with_reducible repeat (first | apply Kd.V_alloc | apply Kd.V_drewN | apply Kd.V_drew)); exact HO_414001.out⟩, ⟨by (with_reducible repeat (first | apply Kd.V_alloc | apply Kd.V_drewN | apply Kd.V_drew)); exact HO_414002.out⟩, ⟨by (with_reducible repeat (first | apply Kd.V_alloc | apply Kd.V_drewN | apply Kd.V_drew)); exact HO_415001.out⟩, ⟨by (with_reducible repeat (first | apply Kd.V_alloc | apply Kd.V_drewN | apply Kd.V_drew)); exact HO_415002.out⟩, ⟨by (with_reducible repeat (first | apply Kd.N_alloc | apply Kd.N_drewN | apply Kd.N_drew)); exact HO_420002.out⟩, ⟨by (with_reducible repeat (first | apply Kd.N_alloc | apply Kd.N_drewN | apply Kd.N_drew)); exact HO_424002.out⟩, ⟨by (with_reducible repeat (first | refine blk_drewN ?_ _ | refine blk_drew ?_ | refine blk_alloc ?_ _)); exact BK413.out⟩, ⟨by (with_reducible repeat (first | refine blk_drewN ?_ _ | refine blk_drew ?_ | refine blk_alloc ?_ _)); exact BK414.out⟩, ⟨by (with_reducible repeat (first | refine blk_drewN ?_ _ | refine blk_drew ?_ | refine blk_alloc ?_ _)); exact BK419.out⟩, ⟨by (with_reducible repeat (first | refine blk_drewN ?_ _ | refine blk_drew ?_ | refine blk_alloc ?_ _)); exact BK423.out⟩, ⟨by repeat (first | (with_reducible first | exact HB.out | apply below_alloc | apply pw_below_drewN | apply below_drew1 | refine below_set ?_ GE413.out | refine below_set ?_ GE414.out | refine below_set ?_ GE419.out | refine below_set ?_ GE423.out) | exact HB.out)⟩⟩
                · replace c54 := Bool.eq_false_iff.mpr c54
                  subst c54
                  have H1 : (if 0 ≤ x36_2 then (if x36_2 ≤ (l2.length : Int) then ((pat_Match.f k2 a0_0 l0_1 l0_2 (l2.take (x36_2 : Int).toNat)).bind fun t427 => (if t427 = true then ((pat_Match.f k2 a1_0 l1_1 l1_2 (l2.drop (x36_2 : Int).toNat)).bind fun t429 => (dragomanlaw05_PatJoins.l0 k2 l2 t429 (wrap64 ((l2.length : Int) + 1)) (wrap64 (x36_2 + 1)) a0_0 l0_1 l0_2 a1_0 l1_1 l1_2 2 y416 3 y420)) else (dragomanlaw05_PatJoins.l0 k2 l2 false (wrap64 ((l2.length : Int) + 1)) (wrap64 (x36_2 + 1)) a0_0 l0_1 l0_2 a1_0 l1_1 l1_2 2 y416 3 y420))) else (none)) else (none)) = some r := by rw [if_neg (show ¬ (false = true) by decide)] at H; exact H
                  clear H
                  have H := H1
                  clear H1
                  by_cases c56 : 0 ≤ x36_2
                  · rw [if_pos c56] at H
                    have c56b0 := eq_true c56
                    have c56b1 : decide (0 ≤ x36_2) = true := decide_eq_true c56
                    clear c56
                    by_cases c57 : x36_2 ≤ (l2.length : Int)
                    · rw [if_pos c57] at H
                      have c57b0 := eq_true c57
                      have c57b1 : decide (x36_2 ≤ (l2.length : Int)) = true := decide_eq_true c57
                      clear c57
                      replace H := Option.bind_eq_some_iff.mp H
                      obtain ⟨t427, A580, H⟩ := H
                      replace H : (if t427 = true then ((pat_Match.f k2 a1_0 l1_1 l1_2 (l2.drop (x36_2 : Int).toNat)).bind fun t429 => (dragomanlaw05_PatJoins.l0 k2 l2 t429 (wrap64 ((l2.length : Int) + 1)) (wrap64 (x36_2 + 1)) a0_0 l0_1 l0_2 a1_0 l1_1 l1_2 2 y416 3 y420)) else (dragomanlaw05_PatJoins.l0 k2 l2 false (wrap64 ((l2.length : Int) + 1)) (wrap64 (x36_2 + 1)) a0_0 l0_1 l0_2 a1_0 l1_1 l1_2 2 y416 3 y420)) = some r := H
                      have A58 := Aside0.mk A580
                      clear A580
                      by_cases c59 : t427 = true
                      · subst c59
                        have H1 : ((pat_Match.f k2 a1_0 l1_1 l1_2 (l2.drop (x36_2 : Int).toNat)).bind fun t429 => (dragomanlaw05_PatJoins.l0 k2 l2 t429 (wrap64 ((l2.length : Int) + 1)) (wrap64 (x36_2 + 1)) a0_0 l0_1 l0_2 a1_0 l1_1 l1_2 2 y416 3 y420)) = some r := by rw [if_pos rfl] at H; exact H
                        clear H
                        have H := H1
                        clear H1
                        have c60b0 := eq_true (of_decide_eq_true (by first | (with_reducible assumption) | assumption) : 0 ≤ x36_2)
                        have c61b0 := eq_true (of_decide_eq_true (by first | (with_reducible assumption) | assumption) : x36_2 ≤ (l2.length : Int))
                        replace H := Option.bind_eq_some_iff.mp H
                        obtain ⟨t429, A620, H⟩ := H
                        replace H : (dragomanlaw05_PatJoins.l0 k2 l2 t429 (wrap64 ((l2.length : Int) + 1)) (wrap64 (x36_2 + 1)) a0_0 l0_1 l0_2 a1_0 l1_1 l1_2 2 y416 3 y420) = some r := H
                        have A62 := Aside0.mk A620
                        clear A620
                        have H' := Aside0.mk H
                        clear H
                        try go_wp2
                        have n0_ := Aside0.mk (Kd.V_drew HO_414001.out)
                        have n1_ := Aside0.mk (Kd.V_drew HO_414002.out)
                        have n2_ := Aside0.mk (Kd.V_drew HO_415001.out)
                        have n3_ := Aside0.mk (Kd.V_drew HO_415002.out)
                        have n4_ := Aside0.mk (Kd.N_drew HO_420002.out)
                        have n5_ := Aside0.mk (Kd.N_drew HO_424002.out)
                        have n6_ := Aside0.mk (blk_drew BK413.out)
                        have n7_ := Aside0.mk (blk_drew BK414.out)
                        have n8_ := Aside0.mk (blk_drew BK419.out)
                        have n9_ := Aside0.mk (blk_drew BK423.out)
                        have n10_ := Aside0.mk (below_drew1 HB.out)
                        clear HO_414001
                        clear HO_414002
                        clear HO_415001
                        clear HO_415002
                        clear HO_420002
                        clear HO_424002
                        clear BK413
                        clear BK414
                        clear BK419
                        clear BK423
                        clear HB
                        have HO_414001 := n0_
                        have HO_414002 := n1_
                        have HO_415001 := n2_
                        have HO_415002 := n3_
                        have HO_420002 := n4_
                        have HO_424002 := n5_
                        have BK413 := n6_
                        have BK414 := n7_
                        have BK419 := n8_
                        have BK423 := n9_
                        have HB := n10_
                        clear n0_ n1_ n2_ n3_ n4_ n5_ n6_ n7_ n8_ n9_ n10_
                        obtain ⟨i064, hi064, _, hsz64, _⟩ := info_parts info36
                        obtain ⟨hcut64, hA64, hC64⟩ := print_take_of (P := Try.prog) (Value.int .u32) 0 26 36 .i64 Try.underlying26 hi064 hsz64 A2 c2 l2 x36_2 (of_decide_eq_true (by first | (with_reducible assumption) | assumption)) (of_decide_eq_true (by first | (with_reducible assumption) | assumption)) HC2.out
                        have HR426 := Aside0.mk (Kd.C_of_reads (h1 := fun _ => rfl) (hA64 _ (Kd.reads_of_C HR2.out)))
                        have HC426 := Aside0.mk hC64
                        clear hA64 hC64 hi064 hsz64
                        refine start_ (n := 16) (S := fun w' => w'.cell? ⟨gb413, 0, none⟩ = some (.int .i64 a0_0) ∧ w'.cell? ⟨gb413, 1, none⟩ = some (.slice A0_1 l0_1.length c0_1) ∧ w'.cell? ⟨gb413, 2, none⟩ = some (.slice A0_2 l0_2.length c0_2) ∧ w'.cell? ⟨gb414, 0, none⟩ = some (.int .i64 a1_0) ∧ w'.cell? ⟨gb414, 1, none⟩ = some (.slice A1_1 l1_1.length c1_1) ∧ w'.cell? ⟨gb414, 2, none⟩ = some (.slice A1_2 l1_2.length c1_2)) (ds := []) #[false, false, false, false, false, false, false, false, false, false, false, false, false, false, false, false] (by kernel_rfl) rfl rfl ⟨(blk_cell BK413.out 0).trans rfl, (blk_cell BK413.out 1).trans rfl, (blk_cell BK413.out 2).trans rfl, (blk_cell BK414.out 0).trans rfl, (blk_cell BK414.out 1).trans rfl, (blk_cell BK414.out 2).trans rfl⟩ (fun hHeld => ?_); refine with_tabW dragomanlaw05_PatJoins.tab11 dragomanlaw05_PatJoins.bits11 (fun HT_ HW_ => ?_)
                        generalize wr.drew = w63 at HO_414001 HO_414002 HO_415001 HO_415002 HO_420002 HO_424002 BK413 BK414 BK419 BK423 HB HR426 hHeld ⊢
                        refine pure_ (i := 0) (N := some 39) (v := ?_) (a' := ?_) #[true, false, false, false, false, false, false, false, false, false, false, false, false, false, false, false] rfl rfl (any_of HT_.out (by kernel_rfl)) (fun _ _ _ h => h) (Or.inl ⟨by rfl, ?_⟩) ?_ ?_
                        rotate_left
                        · intro w'
                          go_simp
                          with_reducible rfl
                        rotate_left
                        · simp only [Act.put, List.setIfInBounds_toArray, List.set_cons_zero, List.set_cons_succ, i64_w, i32_w]
                          rfl
                        refine pure_ (i := 1) (N := some 40) (v := ?_) (a' := ?_) #[true, true, false, false, false, false, false, false, false, false, false, false, false, false, false, false] rfl rfl (any_of HT_.out (by kernel_rfl)) (fun _ _ _ h => h) (Or.inl ⟨by rfl, ?_⟩) ?_ ?_
                        rotate_left
                        · intro w'
                          go_simp
                          with_reducible rfl
                        rotate_left
                        · simp only [Act.put, List.setIfInBounds_toArray, List.set_cons_zero, List.set_cons_succ, i64_w, i32_w]
                          rfl
                        refine pure_ (i := 3) (N := some 42) (v := ?_) (a' := ?_) #[true, true, false, true, false, false, false, false, false, false, false, false, false, false, false, false] rfl rfl (any_of HT_.out (by kernel_rfl)) (fun _ _ _ h => h) (Or.inl ⟨by rfl, ?_⟩) ?_ ?_
                        rotate_left
                        · intro w'
                          go_simp
                          with_reducible rfl
                        rotate_left
                        · simp only [Act.put, List.setIfInBounds_toArray, List.set_cons_zero, List.set_cons_succ, i64_w, i32_w]
                          rfl
                        refine pure_ (i := 4) (N := some 43) (v := ?_) (a' := ?_) #[true, true, false, true, true, false, false, false, false, false, false, false, false, false, false, false] rfl rfl (any_of HT_.out (by kernel_rfl)) (fun _ _ _ h => h) (Or.inl ⟨by rfl, ?_⟩) ?_ ?_
                        rotate_left
                        · intro w'
                          go_simp
                          with_reducible rfl
                        rotate_left
                        · simp only [Act.put, List.setIfInBounds_toArray, List.set_cons_zero, List.set_cons_succ, i64_w, i32_w]
                          rfl
                        refine pure_ (i := 5) (N := some 44) (v := ?_) (a' := ?_) #[true, true, false, true, true, true, false, false, false, false, false, false, false, false, false, false] rfl rfl (any_of HT_.out (by kernel_rfl)) (fun _ _ _ h => h) (Or.inl ⟨by rfl, ?_⟩) ?_ ?_
                        rotate_left
                        · intro w'
                          go_simp
                          with_reducible rfl
                        rotate_left
                        · simp only [Act.put, List.setIfInBounds_toArray, List.set_cons_zero, List.set_cons_succ, i64_w, i32_w]
                          rfl
                        refine take_ (i := 2) (N := some 41) (v := ?_) (a' := ?_) #[true, true, true, true, true, true, false, false, false, false, false, false, false, false, false, false] rfl rfl (take_ofW HT_.out HW_.out (by kernel_rfl)) (fun _ _ _ h => h) (Or.inl ⟨by rfl, ?_⟩) hHeld ?_ ?_
                        rotate_left
                        · rintro w' ⟨s0, s1, s2, s3, s4, s5⟩
                          go_simp
                          with_reducible rfl
                        rotate_left
                        · simp only [Act.put, List.setIfInBounds_toArray, List.set_cons_zero, List.set_cons_succ, i64_w, i32_w]
                          rfl
                        refine one_ (i := 6) (N := some 45) #[true, true, true, true, true, true, true, false, false, false, false, false, false, false, false, false] rfl rfl (one_of HT_.out (by kernel_rfl)) (by decide) (fun K hK => ?_)
                        refine goes_ Try.func18 (by kernel_rfl) rfl #[.agg #[.int .i64 a0_0, .slice A0_1 l0_1.length c0_1, .slice A0_2 l0_2.length c0_2], .slice A2 (l2.take (x36_2 : Int).toNat).length c2] (by rfl) rfl rfl (by (try simp only [List.map_toArray, List.map_cons, List.map_nil]); first | done | (rw [show (l2.take (x36_2 : Int).toNat).length = x36_2.toNat from (by rw [List.length_take]; have h_ : (x36_2 : Int) ≤ (l2.length : Int) := of_decide_eq_true (by first | (with_reducible assumption) | assumption); omega)] <;> rfl) | rfl | (simp only [List.length_drop, List.length_take]; rfl)) ?_
                        with_reducible refine (pat_Match.calls k2 a0_0 _ _ l0_1 _ _ l0_2 _ _ (l2.take (x36_2 : Int).toNat) true _ ?side1 ?side2 ?side3 ?side4 ?side5 ?side6 A58.out).mono ?_
                        (case side1 => repeat (first | exact (Kd.V_reads' HO_414001.out).2.2 | (with_reducible refine Kd.C_alloc ?_ _) | (with_reducible refine Kd.C_drewN ?_ _) | (with_reducible refine Kd.C_drew ?_)))
                        (case side2 => exact (Kd.V_reads' HO_414001.out).2.1)
                        (case side3 => repeat (first | exact (Kd.V_reads' HO_414002.out).2.2 | (with_reducible refine Kd.C_alloc ?_ _) | (with_reducible refine Kd.C_drewN ?_ _) | (with_reducible refine Kd.C_drew ?_)))
                        (case side4 => exact (Kd.V_reads' HO_414002.out).2.1)
                        (case side5 => repeat (first | exact (Kd.C_below HR426.out HB.out) | (with_reducible refine Kd.C_alloc ?_ _) | (with_reducible refine Kd.C_drewN ?_ _) | (with_reducible refine Kd.C_drew ?_)))
                        (case side6 => exact HC426.out)
                        rintro e w65 ⟨rfl, hb⟩
                        refine ⟨_, rfl, ?_⟩
                        have n0_ := Aside0.mk (Kd.V_below (by (with_reducible repeat (first | apply Kd.V_alloc | apply Kd.V_drewN | apply Kd.V_drew)); exact HO_414001.out) hb)
                        have n1_ := Aside0.mk (Kd.V_below (by (with_reducible repeat (first | apply Kd.V_alloc | apply Kd.V_drewN | apply Kd.V_drew)); exact HO_414002.out) hb)
                        have n2_ := Aside0.mk (Kd.V_below (by (with_reducible repeat (first | apply Kd.V_alloc | apply Kd.V_drewN | apply Kd.V_drew)); exact HO_415001.out) hb)
                        have n3_ := Aside0.mk (Kd.V_below (by (with_reducible repeat (first | apply Kd.V_alloc | apply Kd.V_drewN | apply Kd.V_drew)); exact HO_415002.out) hb)
                        have n4_ := Aside0.mk (Kd.N_below (by (with_reducible repeat (first | apply Kd.N_alloc | apply Kd.N_drewN | apply Kd.N_drew)); exact HO_420002.out) hb)
                        have n5_ := Aside0.mk (Kd.N_below (by (with_reducible repeat (first | apply Kd.N_alloc | apply Kd.N_drewN | apply Kd.N_drew)); exact HO_424002.out) hb)
                        have n6_ := Aside0.mk (blk_below (g := gb413) (o := .cells #[.int .i64 a0_0, .slice A0_1 l0_1.length c0_1, .slice A0_2 l0_2.length c0_2] 25 (0, 0)) (by (with_reducible repeat (first | refine blk_drewN ?_ _ | refine blk_drew ?_ | refine blk_alloc ?_ _)); exact BK413.out) hb)
                        have n7_ := Aside0.mk (blk_below (g := gb414) (o := .cells #[.int .i64 a1_0, .slice A1_1 l1_1.length c1_1, .slice A1_2 l1_2.length c1_2] 25 (0, 0)) (by (with_reducible repeat (first | refine blk_drewN ?_ _ | refine blk_drew ?_ | refine blk_alloc ?_ _)); exact BK414.out) hb)
                        have n8_ := Aside0.mk (blk_below (g := gb419) (o := .cells #[.int .i64 2, .slice none 0 0, .slice Ao15 y416.length co15] 25 (0, 0)) (by (with_reducible repeat (first | refine blk_drewN ?_ _ | refine blk_drew ?_ | refine blk_alloc ?_ _)); exact BK419.out) hb)
                        have n9_ := Aside0.mk (blk_below (g := gb423) (o := .cells #[.int .i64 3, .slice none 0 0, .slice Ao25 y420.length co25] 25 (0, 0)) (by (with_reducible repeat (first | refine blk_drewN ?_ _ | refine blk_drew ?_ | refine blk_alloc ?_ _)); exact BK423.out) hb)
                        have n10_ := Aside0.mk (below_step (by repeat (first | (with_reducible first | exact HB.out | apply below_alloc | apply pw_below_drewN | apply below_drew1 | refine below_set ?_ GE413.out | refine below_set ?_ GE414.out | refine below_set ?_ GE419.out | refine below_set ?_ GE423.out) | exact HB.out)) hb)
                        clear HO_414001
                        clear HO_414002
                        clear HO_415001
                        clear HO_415002
                        clear HO_420002
                        clear HO_424002
                        clear BK413
                        clear BK414
                        clear BK419
                        clear BK423
                        clear HB
                        have HO_414001 := n0_
                        have HO_414002 := n1_
                        have HO_415001 := n2_
                        have HO_415002 := n3_
                        have HO_420002 := n4_
                        have HO_424002 := n5_
                        have BK413 := n6_
                        have BK414 := n7_
                        have BK419 := n8_
                        have BK423 := n9_
                        have HB := n10_
                        clear n0_ n1_ n2_ n3_ n4_ n5_ n6_ n7_ n8_ n9_ n10_
                        (try clear hb)
                        (try clear hb2)
                        (try clear hk)
                        (try clear hi)
                        obtain ⟨i066, hi066, _, hsz66, _⟩ := info_parts info36
                        obtain ⟨A66, hcut66, hA66, hC66⟩ := print_drop_of (P := Try.prog) (Value.int .u32) 0 26 36 .i64 Try.underlying26 hi066 hsz66 A2 c2 l2 x36_2 (of_decide_eq_true (by first | (with_reducible assumption) | assumption)) (of_decide_eq_true (by first | (with_reducible assumption) | assumption)) HC2.out
                        have HR428 := Aside0.mk (Kd.C_of_reads (h1 := fun _ => rfl) (hA66 _ (Kd.reads_of_C HR2.out)))
                        have HC428 := Aside0.mk hC66
                        clear hA66 hC66 hi066 hsz66
                        refine hK.out _ _ ⟨(blk_cell BK413.out 0).trans rfl, (blk_cell BK413.out 1).trans rfl, (blk_cell BK413.out 2).trans rfl, (blk_cell BK414.out 0).trans rfl, (blk_cell BK414.out 1).trans rfl, (blk_cell BK414.out 2).trans rfl⟩ (fun hHeld => ?_)
                        clear hK K
                        refine norm_ (a' := ?_) ?_ ?_
                        rotate_left
                        · show Act.put _ (some 45) _ = _
                          simp only [Act.put, List.setIfInBounds_toArray, List.set_cons_zero, List.set_cons_succ, i64_w, i32_w]
                          rfl
                        refine pure_ (i := 7) (N := some 46) (v := ?_) (a' := ?_) #[true, true, true, true, true, true, true, true, false, false, false, false, false, false, false, false] rfl rfl (any_of HT_.out (by kernel_rfl)) (fun _ _ _ h => h) (Or.inl ⟨by rfl, ?_⟩) ?_ ?_
                        rotate_left
                        · intro w'
                          go_simp
                          with_reducible rfl
                        rotate_left
                        · simp only [Act.put, List.setIfInBounds_toArray, List.set_cons_zero, List.set_cons_succ, i64_w, i32_w]
                          rfl
                        refine pure_ (i := 9) (N := some 48) (v := ?_) (a' := ?_) #[true, true, true, true, true, true, true, true, false, true, false, false, false, false, false, false] rfl rfl (any_of HT_.out (by kernel_rfl)) (fun _ _ _ h => h) (Or.inl ⟨by rfl, ?_⟩) ?_ ?_
                        rotate_left
                        · intro w'
                          go_simp
                          with_reducible rfl
                        rotate_left
                        · simp only [Act.put, List.setIfInBounds_toArray, List.set_cons_zero, List.set_cons_succ, i64_w, i32_w]
                          rfl
                        refine pure_ (i := 10) (N := some 49) (v := ?_) (a' := ?_) #[true, true, true, true, true, true, true, true, false, true, true, false, false, false, false, false] rfl rfl (any_of HT_.out (by kernel_rfl)) (fun _ _ _ h => h) (Or.inl ⟨by rfl, ?_⟩) ?_ ?_
                        rotate_left
                        · intro w'
                          go_simp
                          with_reducible rfl
                        rotate_left
                        · simp only [Act.put, List.setIfInBounds_toArray, List.set_cons_zero, List.set_cons_succ, i64_w, i32_w]
                          rfl
                        refine pure_ (i := 11) (N := some 50) (v := ?_) (a' := ?_) #[true, true, true, true, true, true, true, true, false, true, true, true, false, false, false, false] rfl rfl (any_of HT_.out (by kernel_rfl)) (fun _ _ _ h => h) (Or.inl ⟨by rfl, ?_⟩) ?_ ?_
                        rotate_left
                        · intro w'
                          go_simp
                          with_reducible rfl
                        rotate_left
                        · simp only [Act.put, List.setIfInBounds_toArray, List.set_cons_zero, List.set_cons_succ, i64_w, i32_w]
                          rfl
                        refine take_ (i := 8) (N := some 47) (v := ?_) (a' := ?_) #[true, true, true, true, true, true, true, true, true, true, true, true, false, false, false, false] rfl rfl (take_ofW HT_.out HW_.out (by kernel_rfl)) (fun _ _ _ h => h) (Or.inl ⟨by rfl, ?_⟩) hHeld ?_ ?_
                        rotate_left
                        · rintro w' ⟨s0, s1, s2, s3, s4, s5⟩
                          go_simp
                          with_reducible rfl
                        rotate_left
                        · simp only [Act.put, List.setIfInBounds_toArray, List.set_cons_zero, List.set_cons_succ, i64_w, i32_w]
                          rfl
                        refine one_ (i := 12) (N := some 51) #[true, true, true, true, true, true, true, true, true, true, true, true, true, false, false, false] rfl rfl (one_of HT_.out (by kernel_rfl)) (by decide) (fun K hK => ?_)
                        refine goes_ Try.func18 (by kernel_rfl) rfl #[.agg #[.int .i64 a1_0, .slice A1_1 l1_1.length c1_1, .slice A1_2 l1_2.length c1_2], .slice A66 (l2.drop (x36_2 : Int).toNat).length (c2 - x36_2.toNat)] (by rfl) rfl rfl (by (try simp only [List.map_toArray, List.map_cons, List.map_nil]); first | done | (rw [show (l2.drop (x36_2 : Int).toNat).length = (l2.length - x36_2.toNat) from List.length_drop] <;> rfl) | rfl | (simp only [List.length_drop, List.length_take]; rfl)) ?_
                        with_reducible refine (pat_Match.calls k2 a1_0 _ _ l1_1 _ _ l1_2 _ _ (l2.drop (x36_2 : Int).toNat) t429 _ ?side1 ?side2 ?side3 ?side4 ?side5 ?side6 A62.out).mono ?_
                        (case side1 => repeat (first | exact (Kd.V_reads' HO_415001.out).2.2 | (with_reducible refine Kd.C_alloc ?_ _) | (with_reducible refine Kd.C_drewN ?_ _) | (with_reducible refine Kd.C_drew ?_)))
                        (case side2 => exact (Kd.V_reads' HO_415001.out).2.1)
                        (case side3 => repeat (first | exact (Kd.V_reads' HO_415002.out).2.2 | (with_reducible refine Kd.C_alloc ?_ _) | (with_reducible refine Kd.C_drewN ?_ _) | (with_reducible refine Kd.C_drew ?_)))
                        (case side4 => exact (Kd.V_reads' HO_415002.out).2.1)
                        (case side5 => repeat (first | exact (Kd.C_below HR428.out HB.out) | (with_reducible refine Kd.C_alloc ?_ _) | (with_reducible refine Kd.C_drewN ?_ _) | (with_reducible refine Kd.C_drew ?_)))
                        (case side6 => exact HC428.out)
                        rintro e w67 ⟨rfl, hb⟩
                        refine ⟨_, rfl, ?_⟩
                        have n0_ := Aside0.mk (Kd.V_below (by (with_reducible repeat (first | apply Kd.V_alloc | apply Kd.V_drewN | apply Kd.V_drew)); exact HO_414001.out) hb)
                        have n1_ := Aside0.mk (Kd.V_below (by (with_reducible repeat (first | apply Kd.V_alloc | apply Kd.V_drewN | apply Kd.V_drew)); exact HO_414002.out) hb)
                        have n2_ := Aside0.mk (Kd.V_below (by (with_reducible repeat (first | apply Kd.V_alloc | apply Kd.V_drewN | apply Kd.V_drew)); exact HO_415001.out) hb)
                        have n3_ := Aside0.mk (Kd.V_below (by (with_reducible repeat (first | apply Kd.V_alloc | apply Kd.V_drewN | apply Kd.V_drew)); exact HO_415002.out) hb)
                        have n4_ := Aside0.mk (Kd.N_below (by (with_reducible repeat (first | apply Kd.N_alloc | apply Kd.N_drewN | apply Kd.N_drew)); exact HO_420002.out) hb)
                        have n5_ := Aside0.mk (Kd.N_below (by (with_reducible repeat (first | apply Kd.N_alloc | apply Kd.N_drewN | apply Kd.N_drew)); exact HO_424002.out) hb)
                        have n6_ := Aside0.mk (blk_below (g := gb413) (o := .cells #[.int .i64 a0_0, .slice A0_1 l0_1.length c0_1, .slice A0_2 l0_2.length c0_2] 25 (0, 0)) (by (with_reducible repeat (first | refine blk_drewN ?_ _ | refine blk_drew ?_ | refine blk_alloc ?_ _)); exact BK413.out) hb)
                        have n7_ := Aside0.mk (blk_below (g := gb414) (o := .cells #[.int .i64 a1_0, .slice A1_1 l1_1.length c1_1, .slice A1_2 l1_2.length c1_2] 25 (0, 0)) (by (with_reducible repeat (first | refine blk_drewN ?_ _ | refine blk_drew ?_ | refine blk_alloc ?_ _)); exact BK414.out) hb)
                        have n8_ := Aside0.mk (blk_below (g := gb419) (o := .cells #[.int .i64 2, .slice none 0 0, .slice Ao15 y416.length co15] 25 (0, 0)) (by (with_reducible repeat (first | refine blk_drewN ?_ _ | refine blk_drew ?_ | refine blk_alloc ?_ _)); exact BK419.out) hb)
                        have n9_ := Aside0.mk (blk_below (g := gb423) (o := .cells #[.int .i64 3, .slice none 0 0, .slice Ao25 y420.length co25] 25 (0, 0)) (by (with_reducible repeat (first | refine blk_drewN ?_ _ | refine blk_drew ?_ | refine blk_alloc ?_ _)); exact BK423.out) hb)
                        have n10_ := Aside0.mk (below_step (by repeat (first | (with_reducible first | exact HB.out | apply below_alloc | apply pw_below_drewN | apply below_drew1 | refine below_set ?_ GE413.out | refine below_set ?_ GE414.out | refine below_set ?_ GE419.out | refine below_set ?_ GE423.out) | exact HB.out)) hb)
                        clear HO_414001
                        clear HO_414002
                        clear HO_415001
                        clear HO_415002
                        clear HO_420002
                        clear HO_424002
                        clear BK413
                        clear BK414
                        clear BK419
                        clear BK423
                        clear HB
                        have HO_414001 := n0_
                        have HO_414002 := n1_
                        have HO_415001 := n2_
                        have HO_415002 := n3_
                        have HO_420002 := n4_
                        have HO_424002 := n5_
                        have BK413 := n6_
                        have BK414 := n7_
                        have BK419 := n8_
                        have BK423 := n9_
                        have HB := n10_
                        clear n0_ n1_ n2_ n3_ n4_ n5_ n6_ n7_ n8_ n9_ n10_
                        (try clear hb)
                        (try clear hb2)
                        (try clear hk)
                        (try clear hi)
                        refine hK.out _ _ ⟨(blk_cell BK413.out 0).trans rfl, (blk_cell BK413.out 1).trans rfl, (blk_cell BK413.out 2).trans rfl, (blk_cell BK414.out 0).trans rfl, (blk_cell BK414.out 1).trans rfl, (blk_cell BK414.out 2).trans rfl⟩ (fun hHeld => ?_)
                        clear hK K
                        refine norm_ (a' := ?_) ?_ ?_
                        rotate_left
                        · show Act.put _ (some 51) _ = _
                          simp only [Act.put, List.setIfInBounds_toArray, List.set_cons_zero, List.set_cons_succ, i64_w, i32_w]
                          rfl
                        refine pure_ (i := 13) (N := some 52) (v := ?_) (a' := ?_) #[true, true, true, true, true, true, true, true, true, true, true, true, true, true, false, false] rfl rfl (any_of HT_.out (by kernel_rfl)) (fun _ _ _ h => h) (Or.inl ⟨by rfl, ?_⟩) ?_ ?_
                        rotate_left
                        · intro w'
                          go_simp
                          with_reducible rfl
                        rotate_left
                        · simp only [Act.put, List.setIfInBounds_toArray, List.set_cons_zero, List.set_cons_succ, i64_w, i32_w]
                          rfl
                        refine pure_ (i := 14) (N := some 53) (v := ?_) (a' := ?_) #[true, true, true, true, true, true, true, true, true, true, true, true, true, true, true, false] rfl rfl (any_of HT_.out (by kernel_rfl)) (fun _ _ _ h => h) (Or.inl ⟨by rfl, ?_⟩) ?_ ?_
                        rotate_left
                        · intro w'
                          go_simp
                          with_reducible rfl
                        rotate_left
                        · simp only [Act.put, List.setIfInBounds_toArray, List.set_cons_zero, List.set_cons_succ, i64_w, i32_w]
                          rfl
                        refine pure_ (i := 15) (N := some 9) (v := ?_) (a' := ?_) #[true, true, true, true, true, true, true, true, true, true, true, true, true, true, true, true] rfl rfl (any_of HT_.out (by kernel_rfl)) (fun _ _ _ h => h) (Or.inl ⟨by rfl, ?_⟩) ?_ ?_
                        rotate_left
                        · intro w'
                          go_simp
                          with_reducible rfl
                        rotate_left
                        · simp only [Act.put, List.setIfInBounds_toArray, List.set_cons_zero, List.set_cons_succ, i64_w, i32_w]
                          rfl
                        refine done_ (done_of HT_.out (by kernel_rfl)) ?_
                        try go_wp2
                        go_roundg k2
                        case measure => have := HJ5.out; have := HK2.out; omega
                        case rel => exact ⟨(t429), (wrap64 (x36_2 + 1)), (by first | rfl | (simp; done) | (simp [*]; done)), (by first | rfl | (simp; done) | (simp [*]; done)), H', ⟨by have := HJ5.out; have := HK2.out; omega⟩, ⟨by (with_reducible repeat (first | apply Kd.V_alloc | apply Kd.V_drewN | apply Kd.V_drew)); exact HO_414001.out⟩, ⟨by (with_reducible repeat (first | apply Kd.V_alloc | apply Kd.V_drewN | apply Kd.V_drew)); exact HO_414002.out⟩, ⟨by (with_reducible repeat (first | apply Kd.V_alloc | apply Kd.V_drewN | apply Kd.V_drew)); exact HO_415001.out⟩, ⟨by (with_reducible repeat (first | apply Kd.V_alloc | apply Kd.V_drewN | apply Kd.V_drew)); exact HO_415002.out⟩, ⟨by (with_reducible repeat (first | apply Kd.N_alloc | apply Kd.N_drewN | apply Kd.N_drew)); exact HO_420002.out⟩, ⟨by (with_reducible repeat (first | apply Kd.N_alloc | apply Kd.N_drewN | apply Kd.N_drew)); exact HO_424002.out⟩, ⟨by (with_reducible repeat (first | refine blk_drewN ?_ _ | refine blk_drew ?_ | refine blk_alloc ?_ _)); exact BK413.out⟩, ⟨by (with_reducible repeat (first | refine blk_drewN ?_ _ | refine blk_drew ?_ | refine blk_alloc ?_ _)); exact BK414.out⟩, ⟨by (with_reducible repeat (first | refine blk_drewN ?_ _ | refine blk_drew ?_ | refine blk_alloc ?_ _)); exact BK419.out⟩, ⟨by (with_reducible repeat (first | refine blk_drewN ?_ _ | refine blk_drew ?_ | refine blk_alloc ?_ _)); exact BK423.out⟩, ⟨by repeat (first | (with_reducible first | exact HB.out | apply below_alloc | apply pw_below_drewN | apply below_drew1 | refine below_set ?_ GE413.out | refine below_set ?_ GE414.out | refine below_set ?_ GE419.out | refine below_set ?_ GE423.out) | exact HB.out)⟩⟩
                      · replace c59 := Bool.eq_false_iff.mpr c59
                        subst c59
                        have H1 : (dragomanlaw05_PatJoins.l0 k2 l2 false (wrap64 ((l2.length : Int) + 1)) (wrap64 (x36_2 + 1)) a0_0 l0_1 l0_2 a1_0 l1_1 l1_2 2 y416 3 y420) = some r := by rw [if_neg (show ¬ (false = true) by decide)] at H; exact H
                        clear H
                        have H := H1
                        clear H1
                        have H' := Aside0.mk H
                        clear H
                        try go_wp2
                        have n0_ := Aside0.mk (Kd.V_drew HO_414001.out)
                        have n1_ := Aside0.mk (Kd.V_drew HO_414002.out)
                        have n2_ := Aside0.mk (Kd.V_drew HO_415001.out)
                        have n3_ := Aside0.mk (Kd.V_drew HO_415002.out)
                        have n4_ := Aside0.mk (Kd.N_drew HO_420002.out)
                        have n5_ := Aside0.mk (Kd.N_drew HO_424002.out)
                        have n6_ := Aside0.mk (blk_drew BK413.out)
                        have n7_ := Aside0.mk (blk_drew BK414.out)
                        have n8_ := Aside0.mk (blk_drew BK419.out)
                        have n9_ := Aside0.mk (blk_drew BK423.out)
                        have n10_ := Aside0.mk (below_drew1 HB.out)
                        clear HO_414001
                        clear HO_414002
                        clear HO_415001
                        clear HO_415002
                        clear HO_420002
                        clear HO_424002
                        clear BK413
                        clear BK414
                        clear BK419
                        clear BK423
                        clear HB
                        have HO_414001 := n0_
                        have HO_414002 := n1_
                        have HO_415001 := n2_
                        have HO_415002 := n3_
                        have HO_420002 := n4_
                        have HO_424002 := n5_
                        have BK413 := n6_
                        have BK414 := n7_
                        have BK419 := n8_
                        have BK423 := n9_
                        have HB := n10_
                        clear n0_ n1_ n2_ n3_ n4_ n5_ n6_ n7_ n8_ n9_ n10_
                        obtain ⟨i069, hi069, _, hsz69, _⟩ := info_parts info36
                        obtain ⟨hcut69, hA69, hC69⟩ := print_take_of (P := Try.prog) (Value.int .u32) 0 26 36 .i64 Try.underlying26 hi069 hsz69 A2 c2 l2 x36_2 (of_decide_eq_true (by first | (with_reducible assumption) | assumption)) (of_decide_eq_true (by first | (with_reducible assumption) | assumption)) HC2.out
                        have HR426 := Aside0.mk (Kd.C_of_reads (h1 := fun _ => rfl) (hA69 _ (Kd.reads_of_C HR2.out)))
                        have HC426 := Aside0.mk hC69
                        clear hA69 hC69 hi069 hsz69
                        refine start_ (n := 16) (S := fun w' => w'.cell? ⟨gb413, 0, none⟩ = some (.int .i64 a0_0) ∧ w'.cell? ⟨gb413, 1, none⟩ = some (.slice A0_1 l0_1.length c0_1) ∧ w'.cell? ⟨gb413, 2, none⟩ = some (.slice A0_2 l0_2.length c0_2)) (ds := []) #[false, false, false, false, false, false, false, false, false, false, false, false, false, false, false, false] (by kernel_rfl) rfl rfl ⟨(blk_cell BK413.out 0).trans rfl, (blk_cell BK413.out 1).trans rfl, (blk_cell BK413.out 2).trans rfl⟩ (fun hHeld => ?_); refine with_tabW dragomanlaw05_PatJoins.tab11 dragomanlaw05_PatJoins.bits11 (fun HT_ HW_ => ?_)
                        generalize wr.drew = w68 at HO_414001 HO_414002 HO_415001 HO_415002 HO_420002 HO_424002 BK413 BK414 BK419 BK423 HB HR426 hHeld ⊢
                        refine pure_ (i := 0) (N := some 39) (v := ?_) (a' := ?_) #[true, false, false, false, false, false, false, false, false, false, false, false, false, false, false, false] rfl rfl (any_of HT_.out (by kernel_rfl)) (fun _ _ _ h => h) (Or.inl ⟨by rfl, ?_⟩) ?_ ?_
                        rotate_left
                        · intro w'
                          go_simp
                          with_reducible rfl
                        rotate_left
                        · simp only [Act.put, List.setIfInBounds_toArray, List.set_cons_zero, List.set_cons_succ, i64_w, i32_w]
                          rfl
                        refine pure_ (i := 1) (N := some 40) (v := ?_) (a' := ?_) #[true, true, false, false, false, false, false, false, false, false, false, false, false, false, false, false] rfl rfl (any_of HT_.out (by kernel_rfl)) (fun _ _ _ h => h) (Or.inl ⟨by rfl, ?_⟩) ?_ ?_
                        rotate_left
                        · intro w'
                          go_simp
                          with_reducible rfl
                        rotate_left
                        · simp only [Act.put, List.setIfInBounds_toArray, List.set_cons_zero, List.set_cons_succ, i64_w, i32_w]
                          rfl
                        refine pure_ (i := 3) (N := some 42) (v := ?_) (a' := ?_) #[true, true, false, true, false, false, false, false, false, false, false, false, false, false, false, false] rfl rfl (any_of HT_.out (by kernel_rfl)) (fun _ _ _ h => h) (Or.inl ⟨by rfl, ?_⟩) ?_ ?_
                        rotate_left
                        · intro w'
                          go_simp
                          with_reducible rfl
                        rotate_left
                        · simp only [Act.put, List.setIfInBounds_toArray, List.set_cons_zero, List.set_cons_succ, i64_w, i32_w]
                          rfl
                        refine pure_ (i := 4) (N := some 43) (v := ?_) (a' := ?_) #[true, true, false, true, true, false, false, false, false, false, false, false, false, false, false, false] rfl rfl (any_of HT_.out (by kernel_rfl)) (fun _ _ _ h => h) (Or.inl ⟨by rfl, ?_⟩) ?_ ?_
                        rotate_left
                        · intro w'
                          go_simp
                          with_reducible rfl
                        rotate_left
                        · simp only [Act.put, List.setIfInBounds_toArray, List.set_cons_zero, List.set_cons_succ, i64_w, i32_w]
                          rfl
                        refine pure_ (i := 5) (N := some 44) (v := ?_) (a' := ?_) #[true, true, false, true, true, true, false, false, false, false, false, false, false, false, false, false] rfl rfl (any_of HT_.out (by kernel_rfl)) (fun _ _ _ h => h) (Or.inl ⟨by rfl, ?_⟩) ?_ ?_
                        rotate_left
                        · intro w'
                          go_simp
                          with_reducible rfl
                        rotate_left
                        · simp only [Act.put, List.setIfInBounds_toArray, List.set_cons_zero, List.set_cons_succ, i64_w, i32_w]
                          rfl
                        refine take_ (i := 2) (N := some 41) (v := ?_) (a' := ?_) #[true, true, true, true, true, true, false, false, false, false, false, false, false, false, false, false] rfl rfl (take_ofW HT_.out HW_.out (by kernel_rfl)) (fun _ _ _ h => h) (Or.inl ⟨by rfl, ?_⟩) hHeld ?_ ?_
                        rotate_left
                        · rintro w' ⟨s0, s1, s2⟩
                          go_simp
                          with_reducible rfl
                        rotate_left
                        · simp only [Act.put, List.setIfInBounds_toArray, List.set_cons_zero, List.set_cons_succ, i64_w, i32_w]
                          rfl
                        refine one_ (i := 6) (N := some 45) #[true, true, true, true, true, true, true, false, false, false, false, false, false, false, false, false] rfl rfl (one_of HT_.out (by kernel_rfl)) (by decide) (fun K hK => ?_)
                        refine goes_ Try.func18 (by kernel_rfl) rfl #[.agg #[.int .i64 a0_0, .slice A0_1 l0_1.length c0_1, .slice A0_2 l0_2.length c0_2], .slice A2 (l2.take (x36_2 : Int).toNat).length c2] (by rfl) rfl rfl (by (try simp only [List.map_toArray, List.map_cons, List.map_nil]); first | done | (rw [show (l2.take (x36_2 : Int).toNat).length = x36_2.toNat from (by rw [List.length_take]; have h_ : (x36_2 : Int) ≤ (l2.length : Int) := of_decide_eq_true (by first | (with_reducible assumption) | assumption); omega)] <;> rfl) | rfl | (simp only [List.length_drop, List.length_take]; rfl)) ?_
                        with_reducible refine (pat_Match.calls k2 a0_0 _ _ l0_1 _ _ l0_2 _ _ (l2.take (x36_2 : Int).toNat) false _ ?side1 ?side2 ?side3 ?side4 ?side5 ?side6 A58.out).mono ?_
                        (case side1 => repeat (first | exact (Kd.V_reads' HO_414001.out).2.2 | (with_reducible refine Kd.C_alloc ?_ _) | (with_reducible refine Kd.C_drewN ?_ _) | (with_reducible refine Kd.C_drew ?_)))
                        (case side2 => exact (Kd.V_reads' HO_414001.out).2.1)
                        (case side3 => repeat (first | exact (Kd.V_reads' HO_414002.out).2.2 | (with_reducible refine Kd.C_alloc ?_ _) | (with_reducible refine Kd.C_drewN ?_ _) | (with_reducible refine Kd.C_drew ?_)))
                        (case side4 => exact (Kd.V_reads' HO_414002.out).2.1)
                        (case side5 => repeat (first | exact (Kd.C_below HR426.out HB.out) | (with_reducible refine Kd.C_alloc ?_ _) | (with_reducible refine Kd.C_drewN ?_ _) | (with_reducible refine Kd.C_drew ?_)))
                        (case side6 => exact HC426.out)
                        rintro e w70 ⟨rfl, hb⟩
                        refine ⟨_, rfl, ?_⟩
                        have n0_ := Aside0.mk (Kd.V_below (by (with_reducible repeat (first | apply Kd.V_alloc | apply Kd.V_drewN | apply Kd.V_drew)); exact HO_414001.out) hb)
                        have n1_ := Aside0.mk (Kd.V_below (by (with_reducible repeat (first | apply Kd.V_alloc | apply Kd.V_drewN | apply Kd.V_drew)); exact HO_414002.out) hb)
                        have n2_ := Aside0.mk (Kd.V_below (by (with_reducible repeat (first | apply Kd.V_alloc | apply Kd.V_drewN | apply Kd.V_drew)); exact HO_415001.out) hb)
                        have n3_ := Aside0.mk (Kd.V_below (by (with_reducible repeat (first | apply Kd.V_alloc | apply Kd.V_drewN | apply Kd.V_drew)); exact HO_415002.out) hb)
                        have n4_ := Aside0.mk (Kd.N_below (by (with_reducible repeat (first | apply Kd.N_alloc | apply Kd.N_drewN | apply Kd.N_drew)); exact HO_420002.out) hb)
                        have n5_ := Aside0.mk (Kd.N_below (by (with_reducible repeat (first | apply Kd.N_alloc | apply Kd.N_drewN | apply Kd.N_drew)); exact HO_424002.out) hb)
                        have n6_ := Aside0.mk (blk_below (g := gb413) (o := .cells #[.int .i64 a0_0, .slice A0_1 l0_1.length c0_1, .slice A0_2 l0_2.length c0_2] 25 (0, 0)) (by (with_reducible repeat (first | refine blk_drewN ?_ _ | refine blk_drew ?_ | refine blk_alloc ?_ _)); exact BK413.out) hb)
                        have n7_ := Aside0.mk (blk_below (g := gb414) (o := .cells #[.int .i64 a1_0, .slice A1_1 l1_1.length c1_1, .slice A1_2 l1_2.length c1_2] 25 (0, 0)) (by (with_reducible repeat (first | refine blk_drewN ?_ _ | refine blk_drew ?_ | refine blk_alloc ?_ _)); exact BK414.out) hb)
                        have n8_ := Aside0.mk (blk_below (g := gb419) (o := .cells #[.int .i64 2, .slice none 0 0, .slice Ao15 y416.length co15] 25 (0, 0)) (by (with_reducible repeat (first | refine blk_drewN ?_ _ | refine blk_drew ?_ | refine blk_alloc ?_ _)); exact BK419.out) hb)
                        have n9_ := Aside0.mk (blk_below (g := gb423) (o := .cells #[.int .i64 3, .slice none 0 0, .slice Ao25 y420.length co25] 25 (0, 0)) (by (with_reducible repeat (first | refine blk_drewN ?_ _ | refine blk_drew ?_ | refine blk_alloc ?_ _)); exact BK423.out) hb)
                        have n10_ := Aside0.mk (below_step (by repeat (first | (with_reducible first | exact HB.out | apply below_alloc | apply pw_below_drewN | apply below_drew1 | refine below_set ?_ GE413.out | refine below_set ?_ GE414.out | refine below_set ?_ GE419.out | refine below_set ?_ GE423.out) | exact HB.out)) hb)
                        clear HO_414001
                        clear HO_414002
                        clear HO_415001
                        clear HO_415002
                        clear HO_420002
                        clear HO_424002
                        clear BK413
                        clear BK414
                        clear BK419
                        clear BK423
                        clear HB
                        have HO_414001 := n0_
                        have HO_414002 := n1_
                        have HO_415001 := n2_
                        have HO_415002 := n3_
                        have HO_420002 := n4_
                        have HO_424002 := n5_
                        have BK413 := n6_
                        have BK414 := n7_
                        have BK419 := n8_
                        have BK423 := n9_
                        have HB := n10_
                        clear n0_ n1_ n2_ n3_ n4_ n5_ n6_ n7_ n8_ n9_ n10_
                        (try clear hb)
                        (try clear hb2)
                        (try clear hk)
                        (try clear hi)
                        refine hK.out _ _ ⟨(blk_cell BK413.out 0).trans rfl, (blk_cell BK413.out 1).trans rfl, (blk_cell BK413.out 2).trans rfl⟩ (fun hHeld => ?_)
                        clear hK K
                        refine norm_ (a' := ?_) ?_ ?_
                        rotate_left
                        · show Act.put _ (some 45) _ = _
                          simp only [Act.put, List.setIfInBounds_toArray, List.set_cons_zero, List.set_cons_succ, i64_w, i32_w]
                          rfl
                        refine pure_ (i := 7) (N := some 46) (v := ?_) (a' := ?_) #[true, true, true, true, true, true, true, true, false, false, false, false, false, false, false, false] rfl rfl (any_of HT_.out (by kernel_rfl)) (fun _ _ _ h => h) (Or.inl ⟨by rfl, ?_⟩) ?_ ?_
                        rotate_left
                        · intro w'
                          go_simp
                          with_reducible rfl
                        rotate_left
                        · simp only [Act.put, List.setIfInBounds_toArray, List.set_cons_zero, List.set_cons_succ, i64_w, i32_w]
                          rfl
                        refine pure_ (i := 8) (N := some 47) (v := undef) (a' := ?_) #[true, true, true, true, true, true, true, true, true, false, false, false, false, false, false, false] rfl rfl (any_of HT_.out (by kernel_rfl)) (fun _ _ _ h => h) (Or.inr ⟨by rfl, rfl⟩) ?_ ?_
                        rotate_left
                        · simp only [Act.put, List.setIfInBounds_toArray, List.set_cons_zero, List.set_cons_succ, i64_w, i32_w]
                          rfl
                        refine pure_ (i := 9) (N := some 48) (v := undef) (a' := ?_) #[true, true, true, true, true, true, true, true, true, true, false, false, false, false, false, false] rfl rfl (any_of HT_.out (by kernel_rfl)) (fun _ _ _ h => h) (Or.inr ⟨by rfl, rfl⟩) ?_ ?_
                        rotate_left
                        · simp only [Act.put, List.setIfInBounds_toArray, List.set_cons_zero, List.set_cons_succ, i64_w, i32_w]
                          rfl
                        refine pure_ (i := 10) (N := some 49) (v := undef) (a' := ?_) #[true, true, true, true, true, true, true, true, true, true, true, false, false, false, false, false] rfl rfl (any_of HT_.out (by kernel_rfl)) (fun _ _ _ h => h) (Or.inr ⟨by rfl, rfl⟩) ?_ ?_
                        rotate_left
                        · simp only [Act.put, List.setIfInBounds_toArray, List.set_cons_zero, List.set_cons_succ, i64_w, i32_w]
                          rfl
                        refine pure_ (i := 11) (N := some 50) (v := undef) (a' := ?_) #[true, true, true, true, true, true, true, true, true, true, true, true, false, false, false, false] rfl rfl (any_of HT_.out (by kernel_rfl)) (fun _ _ _ h => h) (Or.inr ⟨by rfl, rfl⟩) ?_ ?_
                        rotate_left
                        · simp only [Act.put, List.setIfInBounds_toArray, List.set_cons_zero, List.set_cons_succ, i64_w, i32_w]
                          rfl
                        refine pure_ (i := 12) (N := some 51) (v := undef) (a' := ?_) #[true, true, true, true, true, true, true, true, true, true, true, true, true, false, false, false] rfl rfl (any_of HT_.out (by kernel_rfl)) (fun _ _ _ h => h) (Or.inr ⟨by rfl, rfl⟩) ?_ ?_
                        rotate_left
                        · simp only [Act.put, List.setIfInBounds_toArray, List.set_cons_zero, List.set_cons_succ, i64_w, i32_w]
                          rfl
                        refine pure_ (i := 13) (N := some 52) (v := ?_) (a' := ?_) #[true, true, true, true, true, true, true, true, true, true, true, true, true, true, false, false] rfl rfl (any_of HT_.out (by kernel_rfl)) (fun _ _ _ h => h) (Or.inl ⟨by rfl, ?_⟩) ?_ ?_
                        rotate_left
                        · intro w'
                          go_simp
                          with_reducible rfl
                        rotate_left
                        · simp only [Act.put, List.setIfInBounds_toArray, List.set_cons_zero, List.set_cons_succ, i64_w, i32_w]
                          rfl
                        refine pure_ (i := 14) (N := some 53) (v := ?_) (a' := ?_) #[true, true, true, true, true, true, true, true, true, true, true, true, true, true, true, false] rfl rfl (any_of HT_.out (by kernel_rfl)) (fun _ _ _ h => h) (Or.inl ⟨by rfl, ?_⟩) ?_ ?_
                        rotate_left
                        · intro w'
                          go_simp
                          with_reducible rfl
                        rotate_left
                        · simp only [Act.put, List.setIfInBounds_toArray, List.set_cons_zero, List.set_cons_succ, i64_w, i32_w]
                          rfl
                        refine pure_ (i := 15) (N := some 9) (v := ?_) (a' := ?_) #[true, true, true, true, true, true, true, true, true, true, true, true, true, true, true, true] rfl rfl (any_of HT_.out (by kernel_rfl)) (fun _ _ _ h => h) (Or.inl ⟨by rfl, ?_⟩) ?_ ?_
                        rotate_left
                        · intro w'
                          go_simp
                          with_reducible rfl
                        rotate_left
                        · simp only [Act.put, List.setIfInBounds_toArray, List.set_cons_zero, List.set_cons_succ, i64_w, i32_w]
                          rfl
                        refine done_ (done_of HT_.out (by kernel_rfl)) ?_
                        try go_wp2
                        go_roundg k2
                        case measure => have := HJ5.out; have := HK2.out; omega
                        case rel => exact ⟨(false), (wrap64 (x36_2 + 1)), (by first | rfl | (simp; done) | (simp [*]; done)), (by first | rfl | (simp; done) | (simp [*]; done)), H', ⟨by have := HJ5.out; have := HK2.out; omega⟩, ⟨by (with_reducible repeat (first | apply Kd.V_alloc | apply Kd.V_drewN | apply Kd.V_drew)); exact HO_414001.out⟩, ⟨by (with_reducible repeat (first | apply Kd.V_alloc | apply Kd.V_drewN | apply Kd.V_drew)); exact HO_414002.out⟩, ⟨by (with_reducible repeat (first | apply Kd.V_alloc | apply Kd.V_drewN | apply Kd.V_drew)); exact HO_415001.out⟩, ⟨by (with_reducible repeat (first | apply Kd.V_alloc | apply Kd.V_drewN | apply Kd.V_drew)); exact HO_415002.out⟩, ⟨by (with_reducible repeat (first | apply Kd.N_alloc | apply Kd.N_drewN | apply Kd.N_drew)); exact HO_420002.out⟩, ⟨by (with_reducible repeat (first | apply Kd.N_alloc | apply Kd.N_drewN | apply Kd.N_drew)); exact HO_424002.out⟩, ⟨by (with_reducible repeat (first | refine blk_drewN ?_ _ | refine blk_drew ?_ | refine blk_alloc ?_ _)); exact BK413.out⟩, ⟨by (with_reducible repeat (first | refine blk_drewN ?_ _ | refine blk_drew ?_ | refine blk_alloc ?_ _)); exact BK414.out⟩, ⟨by (with_reducible repeat (first | refine blk_drewN ?_ _ | refine blk_drew ?_ | refine blk_alloc ?_ _)); exact BK419.out⟩, ⟨by (with_reducible repeat (first | refine blk_drewN ?_ _ | refine blk_drew ?_ | refine blk_alloc ?_ _)); exact BK423.out⟩, ⟨by repeat (first | (with_reducible first | exact HB.out | apply below_alloc | apply pw_below_drewN | apply below_drew1 | refine below_set ?_ GE413.out | refine below_set ?_ GE414.out | refine below_set ?_ GE419.out | refine below_set ?_ GE423.out) | exact HB.out)⟩⟩
                    · rw [if_neg c57] at H
                      exact absurd H (by simp)
                  · rw [if_neg c56] at H
                    exact absurd H (by simp)
              · rw [if_neg c53] at H
                have c53b0 : decide (x36_2 < (wrap64 ((l2.length : Int) + 1))) = false := decide_eq_false c53
                clear c53
                replace H := Option.bind_eq_some_iff.mp H
                obtain ⟨t430, A710, H⟩ := H
                replace H : (if (t430 == x9_2) = true then ((pat_Match.f k2 3 ([] : List (S66)) y420 l2).bind fun t431 => ((pat_Match.f k2 a0_0 l0_1 l0_2 l2).bind fun t432 => (if t432 = true then (some (t431 == true)) else ((pat_Match.f k2 a1_0 l1_1 l1_2 l2).bind fun t433 => (some (t431 == t433)))))) else (none)) = some r := H
                have A71 := Aside0.mk A710
                clear A710
                by_cases c72 : (t430 == x9_2) = true
                · rw [if_pos c72] at H
                  have c72b0 : (t430 == x9_2) = true := c72
                  (try (have c72b1 : decide (t430 = x9_2) = true := by simpa using c72))
                  (try (have c72b2 : (t430 == x9_2) = true := by simpa using c72))
                  clear c72
                  replace H := Option.bind_eq_some_iff.mp H
                  obtain ⟨t431, A730, H⟩ := H
                  replace H : ((pat_Match.f k2 a0_0 l0_1 l0_2 l2).bind fun t432 => (if t432 = true then (some (t431 == true)) else ((pat_Match.f k2 a1_0 l1_1 l1_2 l2).bind fun t433 => (some (t431 == t433))))) = some r := H
                  have A73 := Aside0.mk A730
                  clear A730
                  replace H := Option.bind_eq_some_iff.mp H
                  obtain ⟨t432, A740, H⟩ := H
                  replace H : (if t432 = true then (some (t431 == true)) else ((pat_Match.f k2 a1_0 l1_1 l1_2 l2).bind fun t433 => (some (t431 == t433)))) = some r := H
                  have A74 := Aside0.mk A740
                  clear A740
                  by_cases c75 : t432 = true
                  · subst c75
                    have H1 : (some (t431 == true)) = some r := by rw [if_pos rfl] at H; exact H
                    clear H
                    have H := H1
                    clear H1
                    obtain rfl := Option.some.inj H
                    try go_wp2
                    have n0_ := Aside0.mk (Kd.V_drew HO_414001.out)
                    have n1_ := Aside0.mk (Kd.V_drew HO_414002.out)
                    have n2_ := Aside0.mk (Kd.V_drew HO_415001.out)
                    have n3_ := Aside0.mk (Kd.V_drew HO_415002.out)
                    have n4_ := Aside0.mk (Kd.N_drew HO_420002.out)
                    have n5_ := Aside0.mk (Kd.N_drew HO_424002.out)
                    have n6_ := Aside0.mk (blk_drew BK413.out)
                    have n7_ := Aside0.mk (blk_drew BK414.out)
                    have n8_ := Aside0.mk (blk_drew BK419.out)
                    have n9_ := Aside0.mk (blk_drew BK423.out)
                    have n10_ := Aside0.mk (below_drew1 HB.out)
                    clear HO_414001
                    clear HO_414002
                    clear HO_415001
                    clear HO_415002
                    clear HO_420002
                    clear HO_424002
                    clear BK413
                    clear BK414
                    clear BK419
                    clear BK423
                    clear HB
                    have HO_414001 := n0_
                    have HO_414002 := n1_
                    have HO_415001 := n2_
                    have HO_415002 := n3_
                    have HO_420002 := n4_
                    have HO_424002 := n5_
                    have BK413 := n6_
                    have BK414 := n7_
                    have BK419 := n8_
                    have BK423 := n9_
                    have HB := n10_
                    clear n0_ n1_ n2_ n3_ n4_ n5_ n6_ n7_ n8_ n9_ n10_
                    refine start_ (n := 20) (S := fun w' => w'.cell? ⟨gb419, 0, none⟩ = some (.int .i64 2) ∧ w'.cell? ⟨gb419, 1, none⟩ = some (.slice none 0 0) ∧ w'.cell? ⟨gb419, 2, none⟩ = some (.slice Ao15 y416.length co15) ∧ w'.cell? ⟨gb423, 0, none⟩ = some (.int .i64 3) ∧ w'.cell? ⟨gb423, 1, none⟩ = some (.slice none 0 0) ∧ w'.cell? ⟨gb423, 2, none⟩ = some (.slice Ao25 y420.length co25) ∧ w'.cell? ⟨gb413, 0, none⟩ = some (.int .i64 a0_0) ∧ w'.cell? ⟨gb413, 1, none⟩ = some (.slice A0_1 l0_1.length c0_1) ∧ w'.cell? ⟨gb413, 2, none⟩ = some (.slice A0_2 l0_2.length c0_2)) (ds := []) #[false, false, false, false, false, false, false, false, false, false, false, false, false, false, false, false, false, false, false, false] (by kernel_rfl) rfl rfl ⟨(blk_cell BK419.out 0).trans rfl, (blk_cell BK419.out 1).trans rfl, (blk_cell BK419.out 2).trans rfl, (blk_cell BK423.out 0).trans rfl, (blk_cell BK423.out 1).trans rfl, (blk_cell BK423.out 2).trans rfl, (blk_cell BK413.out 0).trans rfl, (blk_cell BK413.out 1).trans rfl, (blk_cell BK413.out 2).trans rfl⟩ (fun hHeld => ?_); refine with_tabW dragomanlaw05_PatJoins.tab13 dragomanlaw05_PatJoins.bits13 (fun HT_ HW_ => ?_)
                    generalize wr.drew = w76 at HO_414001 HO_414002 HO_415001 HO_415002 HO_420002 HO_424002 BK413 BK414 BK419 BK423 HB hHeld ⊢
                    refine pure_ (i := 1) (N := some 56) (v := ?_) (a' := ?_) #[false, true, false, false, false, false, false, false, false, false, false, false, false, false, false, false, false, false, false, false] rfl rfl (any_of HT_.out (by kernel_rfl)) (fun _ _ _ h => h) (Or.inl ⟨by rfl, ?_⟩) ?_ ?_
                    rotate_left
                    · intro w'
                      go_simp
                      with_reducible rfl
                    rotate_left
                    · simp only [Act.put, List.setIfInBounds_toArray, List.set_cons_zero, List.set_cons_succ, i64_w, i32_w]
                      rfl
                    refine pure_ (i := 3) (N := some 58) (v := ?_) (a' := ?_) #[false, true, false, true, false, false, false, false, false, false, false, false, false, false, false, false, false, false, false, false] rfl rfl (any_of HT_.out (by kernel_rfl)) (fun _ _ _ h => h) (Or.inl ⟨by rfl, ?_⟩) ?_ ?_
                    rotate_left
                    · intro w'
                      go_simp
                      with_reducible rfl
                    rotate_left
                    · simp only [Act.put, List.setIfInBounds_toArray, List.set_cons_zero, List.set_cons_succ, i64_w, i32_w]
                      rfl
                    refine take_ (i := 0) (N := some 55) (v := ?_) (a' := ?_) #[true, true, false, true, false, false, false, false, false, false, false, false, false, false, false, false, false, false, false, false] rfl rfl (take_ofW HT_.out HW_.out (by kernel_rfl)) (fun _ _ _ h => h) (Or.inl ⟨by rfl, ?_⟩) hHeld ?_ ?_
                    rotate_left
                    · rintro w' ⟨s0, s1, s2, s3, s4, s5, s6, s7, s8⟩
                      go_simp
                      with_reducible rfl
                    rotate_left
                    · simp only [Act.put, List.setIfInBounds_toArray, List.set_cons_zero, List.set_cons_succ, i64_w, i32_w]
                      rfl
                    refine one_ (i := 2) (N := some 57) #[true, true, true, true, false, false, false, false, false, false, false, false, false, false, false, false, false, false, false, false] rfl rfl (one_of HT_.out (by kernel_rfl)) (by decide) (fun K hK => ?_)
                    refine goes_ Try.func18 (by kernel_rfl) rfl #[.agg #[.int .i64 2, .slice none 0 0, .slice Ao15 y416.length co15], .slice A2 l2.length c2] (by rfl) rfl rfl (by (try simp only [List.map_toArray, List.map_cons, List.map_nil]); first | done | rfl | (simp only [List.length_drop, List.length_take]; rfl)) ?_
                    refine (pat_Match.calls k2 2 _ _ ([] : List (S66)) _ _ y416 _ _ l2 t430 _ ?side1 ?side2 ?side3 ?side4 ?side5 ?side6 A71.out).mono ?_
                    (case side1 => exact Kd.C_nil _ _)
                    (case side2 => exact Nat.le_refl _)
                    (case side3 => repeat (first | exact (Kd.N_reads' HO_420002.out).2.2 | (with_reducible refine Kd.C_alloc ?_ _) | (with_reducible refine Kd.C_drewN ?_ _) | (with_reducible refine Kd.C_drew ?_)))
                    (case side4 => exact (Kd.N_reads' HO_420002.out).2.1)
                    (case side5 => repeat (first | exact (Kd.C_below HR2.out HB.out) | (with_reducible refine Kd.C_alloc ?_ _) | (with_reducible refine Kd.C_drewN ?_ _) | (with_reducible refine Kd.C_drew ?_)))
                    (case side6 => exact HC2.out)
                    rintro e w77 ⟨rfl, hb⟩
                    refine ⟨_, rfl, ?_⟩
                    have n0_ := Aside0.mk (Kd.V_below (by (with_reducible repeat (first | apply Kd.V_alloc | apply Kd.V_drewN | apply Kd.V_drew)); exact HO_414001.out) hb)
                    have n1_ := Aside0.mk (Kd.V_below (by (with_reducible repeat (first | apply Kd.V_alloc | apply Kd.V_drewN | apply Kd.V_drew)); exact HO_414002.out) hb)
                    have n2_ := Aside0.mk (Kd.V_below (by (with_reducible repeat (first | apply Kd.V_alloc | apply Kd.V_drewN | apply Kd.V_drew)); exact HO_415001.out) hb)
                    have n3_ := Aside0.mk (Kd.V_below (by (with_reducible repeat (first | apply Kd.V_alloc | apply Kd.V_drewN | apply Kd.V_drew)); exact HO_415002.out) hb)
                    have n4_ := Aside0.mk (Kd.N_below (by (with_reducible repeat (first | apply Kd.N_alloc | apply Kd.N_drewN | apply Kd.N_drew)); exact HO_420002.out) hb)
                    have n5_ := Aside0.mk (Kd.N_below (by (with_reducible repeat (first | apply Kd.N_alloc | apply Kd.N_drewN | apply Kd.N_drew)); exact HO_424002.out) hb)
                    have n6_ := Aside0.mk (blk_below (g := gb413) (o := .cells #[.int .i64 a0_0, .slice A0_1 l0_1.length c0_1, .slice A0_2 l0_2.length c0_2] 25 (0, 0)) (by (with_reducible repeat (first | refine blk_drewN ?_ _ | refine blk_drew ?_ | refine blk_alloc ?_ _)); exact BK413.out) hb)
                    have n7_ := Aside0.mk (blk_below (g := gb414) (o := .cells #[.int .i64 a1_0, .slice A1_1 l1_1.length c1_1, .slice A1_2 l1_2.length c1_2] 25 (0, 0)) (by (with_reducible repeat (first | refine blk_drewN ?_ _ | refine blk_drew ?_ | refine blk_alloc ?_ _)); exact BK414.out) hb)
                    have n8_ := Aside0.mk (blk_below (g := gb419) (o := .cells #[.int .i64 2, .slice none 0 0, .slice Ao15 y416.length co15] 25 (0, 0)) (by (with_reducible repeat (first | refine blk_drewN ?_ _ | refine blk_drew ?_ | refine blk_alloc ?_ _)); exact BK419.out) hb)
                    have n9_ := Aside0.mk (blk_below (g := gb423) (o := .cells #[.int .i64 3, .slice none 0 0, .slice Ao25 y420.length co25] 25 (0, 0)) (by (with_reducible repeat (first | refine blk_drewN ?_ _ | refine blk_drew ?_ | refine blk_alloc ?_ _)); exact BK423.out) hb)
                    have n10_ := Aside0.mk (below_step (by repeat (first | (with_reducible first | exact HB.out | apply below_alloc | apply pw_below_drewN | apply below_drew1 | refine below_set ?_ GE413.out | refine below_set ?_ GE414.out | refine below_set ?_ GE419.out | refine below_set ?_ GE423.out) | exact HB.out)) hb)
                    clear HO_414001
                    clear HO_414002
                    clear HO_415001
                    clear HO_415002
                    clear HO_420002
                    clear HO_424002
                    clear BK413
                    clear BK414
                    clear BK419
                    clear BK423
                    clear HB
                    have HO_414001 := n0_
                    have HO_414002 := n1_
                    have HO_415001 := n2_
                    have HO_415002 := n3_
                    have HO_420002 := n4_
                    have HO_424002 := n5_
                    have BK413 := n6_
                    have BK414 := n7_
                    have BK419 := n8_
                    have BK423 := n9_
                    have HB := n10_
                    clear n0_ n1_ n2_ n3_ n4_ n5_ n6_ n7_ n8_ n9_ n10_
                    (try clear hb)
                    (try clear hb2)
                    (try clear hk)
                    (try clear hi)
                    refine hK.out _ _ ⟨(blk_cell BK419.out 0).trans rfl, (blk_cell BK419.out 1).trans rfl, (blk_cell BK419.out 2).trans rfl, (blk_cell BK423.out 0).trans rfl, (blk_cell BK423.out 1).trans rfl, (blk_cell BK423.out 2).trans rfl, (blk_cell BK413.out 0).trans rfl, (blk_cell BK413.out 1).trans rfl, (blk_cell BK413.out 2).trans rfl⟩ (fun hHeld => ?_)
                    clear hK K
                    refine norm_ (a' := ?_) ?_ ?_
                    rotate_left
                    · show Act.put _ (some 57) _ = _
                      simp only [Act.put, List.setIfInBounds_toArray, List.set_cons_zero, List.set_cons_succ, i64_w, i32_w]
                      rfl
                    refine pure_ (i := 4) (N := some 59) (v := ?_) (a' := ?_) #[true, true, true, true, true, false, false, false, false, false, false, false, false, false, false, false, false, false, false, false] rfl rfl (any_of HT_.out (by kernel_rfl)) (fun _ _ _ h => h) (Or.inl ⟨by rfl, ?_⟩) ?_ ?_
                    rotate_left
                    · intro w'
                      go_simp
                      with_reducible rfl
                    rotate_left
                    · simp only [Act.put, List.setIfInBounds_toArray, List.set_cons_zero, List.set_cons_succ, i64_w, i32_w]
                      rfl
                    refine pure_ (i := 5) (N := some 60) (v := ?_) (a' := ?_) #[true, true, true, true, true, true, false, false, false, false, false, false, false, false, false, false, false, false, false, false] rfl rfl (any_of HT_.out (by kernel_rfl)) (fun _ _ _ h => h) (Or.inl ⟨by rfl, ?_⟩) ?_ ?_
                    rotate_left
                    · intro w'
                      go_simp
                      with_reducible rfl
                    rotate_left
                    · simp only [Act.put, List.setIfInBounds_toArray, List.set_cons_zero, List.set_cons_succ, i64_w, i32_w]
                      rfl
                    refine pure_ (i := 7) (N := some 62) (v := ?_) (a' := ?_) #[true, true, true, true, true, true, false, true, false, false, false, false, false, false, false, false, false, false, false, false] rfl rfl (any_of HT_.out (by kernel_rfl)) (fun _ _ _ h => h) (Or.inl ⟨by rfl, ?_⟩) ?_ ?_
                    rotate_left
                    · intro w'
                      go_simp
                      with_reducible rfl
                    rotate_left
                    · simp only [Act.put, List.setIfInBounds_toArray, List.set_cons_zero, List.set_cons_succ, i64_w, i32_w]
                      rfl
                    refine pure_ (i := 10) (N := some 65) (v := ?_) (a' := ?_) #[true, true, true, true, true, true, false, true, false, false, true, false, false, false, false, false, false, false, false, false] rfl rfl (any_of HT_.out (by kernel_rfl)) (fun _ _ _ h => h) (Or.inl ⟨by rfl, ?_⟩) ?_ ?_
                    rotate_left
                    · intro w'
                      go_simp
                      with_reducible rfl
                    rotate_left
                    · simp only [Act.put, List.setIfInBounds_toArray, List.set_cons_zero, List.set_cons_succ, i64_w, i32_w]
                      rfl
                    refine take_ (i := 6) (N := some 61) (v := ?_) (a' := ?_) #[true, true, true, true, true, true, true, true, false, false, true, false, false, false, false, false, false, false, false, false] rfl rfl (take_ofW HT_.out HW_.out (by kernel_rfl)) (fun _ _ _ h => h) (Or.inl ⟨by rfl, ?_⟩) hHeld ?_ ?_
                    rotate_left
                    · rintro w' ⟨s0, s1, s2, s3, s4, s5, s6, s7, s8⟩
                      go_simp
                      with_reducible rfl
                    rotate_left
                    · simp only [Act.put, List.setIfInBounds_toArray, List.set_cons_zero, List.set_cons_succ, i64_w, i32_w]
                      rfl
                    refine take_ (i := 9) (N := some 64) (v := ?_) (a' := ?_) #[true, true, true, true, true, true, true, true, false, true, true, false, false, false, false, false, false, false, false, false] rfl rfl (take_ofW HT_.out HW_.out (by kernel_rfl)) (fun _ _ _ h => h) (Or.inl ⟨by rfl, ?_⟩) hHeld ?_ ?_
                    rotate_left
                    · rintro w' ⟨s0, s1, s2, s3, s4, s5, s6, s7, s8⟩
                      go_simp
                      with_reducible rfl
                    rotate_left
                    · simp only [Act.put, List.setIfInBounds_toArray, List.set_cons_zero, List.set_cons_succ, i64_w, i32_w]
                      rfl
                    refine one_ (i := 8) (N := some 63) #[true, true, true, true, true, true, true, true, true, true, true, false, false, false, false, false, false, false, false, false] rfl rfl (one_of HT_.out (by kernel_rfl)) (by decide) (fun K hK => ?_)
                    refine goes_ Try.func18 (by kernel_rfl) rfl #[.agg #[.int .i64 3, .slice none 0 0, .slice Ao25 y420.length co25], .slice A2 l2.length c2] (by rfl) rfl rfl (by (try simp only [List.map_toArray, List.map_cons, List.map_nil]); first | done | rfl | (simp only [List.length_drop, List.length_take]; rfl)) ?_
                    refine (pat_Match.calls k2 3 _ _ ([] : List (S66)) _ _ y420 _ _ l2 t431 _ ?side1 ?side2 ?side3 ?side4 ?side5 ?side6 A73.out).mono ?_
                    (case side1 => exact Kd.C_nil _ _)
                    (case side2 => exact Nat.le_refl _)
                    (case side3 => repeat (first | exact (Kd.N_reads' HO_424002.out).2.2 | (with_reducible refine Kd.C_alloc ?_ _) | (with_reducible refine Kd.C_drewN ?_ _) | (with_reducible refine Kd.C_drew ?_)))
                    (case side4 => exact (Kd.N_reads' HO_424002.out).2.1)
                    (case side5 => repeat (first | exact (Kd.C_below HR2.out HB.out) | (with_reducible refine Kd.C_alloc ?_ _) | (with_reducible refine Kd.C_drewN ?_ _) | (with_reducible refine Kd.C_drew ?_)))
                    (case side6 => exact HC2.out)
                    rintro e w78 ⟨rfl, hb⟩
                    refine ⟨_, rfl, ?_⟩
                    have n0_ := Aside0.mk (Kd.V_below (by (with_reducible repeat (first | apply Kd.V_alloc | apply Kd.V_drewN | apply Kd.V_drew)); exact HO_414001.out) hb)
                    have n1_ := Aside0.mk (Kd.V_below (by (with_reducible repeat (first | apply Kd.V_alloc | apply Kd.V_drewN | apply Kd.V_drew)); exact HO_414002.out) hb)
                    have n2_ := Aside0.mk (Kd.V_below (by (with_reducible repeat (first | apply Kd.V_alloc | apply Kd.V_drewN | apply Kd.V_drew)); exact HO_415001.out) hb)
                    have n3_ := Aside0.mk (Kd.V_below (by (with_reducible repeat (first | apply Kd.V_alloc | apply Kd.V_drewN | apply Kd.V_drew)); exact HO_415002.out) hb)
                    have n4_ := Aside0.mk (Kd.N_below (by (with_reducible repeat (first | apply Kd.N_alloc | apply Kd.N_drewN | apply Kd.N_drew)); exact HO_420002.out) hb)
                    have n5_ := Aside0.mk (Kd.N_below (by (with_reducible repeat (first | apply Kd.N_alloc | apply Kd.N_drewN | apply Kd.N_drew)); exact HO_424002.out) hb)
                    have n6_ := Aside0.mk (blk_below (g := gb413) (o := .cells #[.int .i64 a0_0, .slice A0_1 l0_1.length c0_1, .slice A0_2 l0_2.length c0_2] 25 (0, 0)) (by (with_reducible repeat (first | refine blk_drewN ?_ _ | refine blk_drew ?_ | refine blk_alloc ?_ _)); exact BK413.out) hb)
                    have n7_ := Aside0.mk (blk_below (g := gb414) (o := .cells #[.int .i64 a1_0, .slice A1_1 l1_1.length c1_1, .slice A1_2 l1_2.length c1_2] 25 (0, 0)) (by (with_reducible repeat (first | refine blk_drewN ?_ _ | refine blk_drew ?_ | refine blk_alloc ?_ _)); exact BK414.out) hb)
                    have n8_ := Aside0.mk (blk_below (g := gb419) (o := .cells #[.int .i64 2, .slice none 0 0, .slice Ao15 y416.length co15] 25 (0, 0)) (by (with_reducible repeat (first | refine blk_drewN ?_ _ | refine blk_drew ?_ | refine blk_alloc ?_ _)); exact BK419.out) hb)
                    have n9_ := Aside0.mk (blk_below (g := gb423) (o := .cells #[.int .i64 3, .slice none 0 0, .slice Ao25 y420.length co25] 25 (0, 0)) (by (with_reducible repeat (first | refine blk_drewN ?_ _ | refine blk_drew ?_ | refine blk_alloc ?_ _)); exact BK423.out) hb)
                    have n10_ := Aside0.mk (below_step (by repeat (first | (with_reducible first | exact HB.out | apply below_alloc | apply pw_below_drewN | apply below_drew1 | refine below_set ?_ GE413.out | refine below_set ?_ GE414.out | refine below_set ?_ GE419.out | refine below_set ?_ GE423.out) | exact HB.out)) hb)
                    clear HO_414001
                    clear HO_414002
                    clear HO_415001
                    clear HO_415002
                    clear HO_420002
                    clear HO_424002
                    clear BK413
                    clear BK414
                    clear BK419
                    clear BK423
                    clear HB
                    have HO_414001 := n0_
                    have HO_414002 := n1_
                    have HO_415001 := n2_
                    have HO_415002 := n3_
                    have HO_420002 := n4_
                    have HO_424002 := n5_
                    have BK413 := n6_
                    have BK414 := n7_
                    have BK419 := n8_
                    have BK423 := n9_
                    have HB := n10_
                    clear n0_ n1_ n2_ n3_ n4_ n5_ n6_ n7_ n8_ n9_ n10_
                    (try clear hb)
                    (try clear hb2)
                    (try clear hk)
                    (try clear hi)
                    refine hK.out _ _ ⟨(blk_cell BK419.out 0).trans rfl, (blk_cell BK419.out 1).trans rfl, (blk_cell BK419.out 2).trans rfl, (blk_cell BK423.out 0).trans rfl, (blk_cell BK423.out 1).trans rfl, (blk_cell BK423.out 2).trans rfl, (blk_cell BK413.out 0).trans rfl, (blk_cell BK413.out 1).trans rfl, (blk_cell BK413.out 2).trans rfl⟩ (fun hHeld => ?_)
                    clear hK K
                    refine norm_ (a' := ?_) ?_ ?_
                    rotate_left
                    · show Act.put _ (some 63) _ = _
                      simp only [Act.put, List.setIfInBounds_toArray, List.set_cons_zero, List.set_cons_succ, i64_w, i32_w]
                      rfl
                    refine one_ (i := 11) (N := some 66) #[true, true, true, true, true, true, true, true, true, true, true, true, false, false, false, false, false, false, false, false] rfl rfl (one_of HT_.out (by kernel_rfl)) (by decide) (fun K hK => ?_)
                    refine goes_ Try.func18 (by kernel_rfl) rfl #[.agg #[.int .i64 a0_0, .slice A0_1 l0_1.length c0_1, .slice A0_2 l0_2.length c0_2], .slice A2 l2.length c2] (by rfl) rfl rfl (by (try simp only [List.map_toArray, List.map_cons, List.map_nil]); first | done | rfl | (simp only [List.length_drop, List.length_take]; rfl)) ?_
                    with_reducible refine (pat_Match.calls k2 a0_0 _ _ l0_1 _ _ l0_2 _ _ l2 true _ ?side1 ?side2 ?side3 ?side4 ?side5 ?side6 A74.out).mono ?_
                    (case side1 => repeat (first | exact (Kd.V_reads' HO_414001.out).2.2 | (with_reducible refine Kd.C_alloc ?_ _) | (with_reducible refine Kd.C_drewN ?_ _) | (with_reducible refine Kd.C_drew ?_)))
                    (case side2 => exact (Kd.V_reads' HO_414001.out).2.1)
                    (case side3 => repeat (first | exact (Kd.V_reads' HO_414002.out).2.2 | (with_reducible refine Kd.C_alloc ?_ _) | (with_reducible refine Kd.C_drewN ?_ _) | (with_reducible refine Kd.C_drew ?_)))
                    (case side4 => exact (Kd.V_reads' HO_414002.out).2.1)
                    (case side5 => repeat (first | exact (Kd.C_below HR2.out HB.out) | (with_reducible refine Kd.C_alloc ?_ _) | (with_reducible refine Kd.C_drewN ?_ _) | (with_reducible refine Kd.C_drew ?_)))
                    (case side6 => exact HC2.out)
                    rintro e w79 ⟨rfl, hb⟩
                    refine ⟨_, rfl, ?_⟩
                    have n0_ := Aside0.mk (Kd.V_below (by (with_reducible repeat (first | apply Kd.V_alloc | apply Kd.V_drewN | apply Kd.V_drew)); exact HO_414001.out) hb)
                    have n1_ := Aside0.mk (Kd.V_below (by (with_reducible repeat (first | apply Kd.V_alloc | apply Kd.V_drewN | apply Kd.V_drew)); exact HO_414002.out) hb)
                    have n2_ := Aside0.mk (Kd.V_below (by (with_reducible repeat (first | apply Kd.V_alloc | apply Kd.V_drewN | apply Kd.V_drew)); exact HO_415001.out) hb)
                    have n3_ := Aside0.mk (Kd.V_below (by (with_reducible repeat (first | apply Kd.V_alloc | apply Kd.V_drewN | apply Kd.V_drew)); exact HO_415002.out) hb)
                    have n4_ := Aside0.mk (Kd.N_below (by (with_reducible repeat (first | apply Kd.N_alloc | apply Kd.N_drewN | apply Kd.N_drew)); exact HO_420002.out) hb)
                    have n5_ := Aside0.mk (Kd.N_below (by (with_reducible repeat (first | apply Kd.N_alloc | apply Kd.N_drewN | apply Kd.N_drew)); exact HO_424002.out) hb)
                    have n6_ := Aside0.mk (blk_below (g := gb413) (o := .cells #[.int .i64 a0_0, .slice A0_1 l0_1.length c0_1, .slice A0_2 l0_2.length c0_2] 25 (0, 0)) (by (with_reducible repeat (first | refine blk_drewN ?_ _ | refine blk_drew ?_ | refine blk_alloc ?_ _)); exact BK413.out) hb)
                    have n7_ := Aside0.mk (blk_below (g := gb414) (o := .cells #[.int .i64 a1_0, .slice A1_1 l1_1.length c1_1, .slice A1_2 l1_2.length c1_2] 25 (0, 0)) (by (with_reducible repeat (first | refine blk_drewN ?_ _ | refine blk_drew ?_ | refine blk_alloc ?_ _)); exact BK414.out) hb)
                    have n8_ := Aside0.mk (blk_below (g := gb419) (o := .cells #[.int .i64 2, .slice none 0 0, .slice Ao15 y416.length co15] 25 (0, 0)) (by (with_reducible repeat (first | refine blk_drewN ?_ _ | refine blk_drew ?_ | refine blk_alloc ?_ _)); exact BK419.out) hb)
                    have n9_ := Aside0.mk (blk_below (g := gb423) (o := .cells #[.int .i64 3, .slice none 0 0, .slice Ao25 y420.length co25] 25 (0, 0)) (by (with_reducible repeat (first | refine blk_drewN ?_ _ | refine blk_drew ?_ | refine blk_alloc ?_ _)); exact BK423.out) hb)
                    have n10_ := Aside0.mk (below_step (by repeat (first | (with_reducible first | exact HB.out | apply below_alloc | apply pw_below_drewN | apply below_drew1 | refine below_set ?_ GE413.out | refine below_set ?_ GE414.out | refine below_set ?_ GE419.out | refine below_set ?_ GE423.out) | exact HB.out)) hb)
                    clear HO_414001
                    clear HO_414002
                    clear HO_415001
                    clear HO_415002
                    clear HO_420002
                    clear HO_424002
                    clear BK413
                    clear BK414
                    clear BK419
                    clear BK423
                    clear HB
                    have HO_414001 := n0_
                    have HO_414002 := n1_
                    have HO_415001 := n2_
                    have HO_415002 := n3_
                    have HO_420002 := n4_
                    have HO_424002 := n5_
                    have BK413 := n6_
                    have BK414 := n7_
                    have BK419 := n8_
                    have BK423 := n9_
                    have HB := n10_
                    clear n0_ n1_ n2_ n3_ n4_ n5_ n6_ n7_ n8_ n9_ n10_
                    (try clear hb)
                    (try clear hb2)
                    (try clear hk)
                    (try clear hi)
                    refine hK.out _ _ ⟨(blk_cell BK419.out 0).trans rfl, (blk_cell BK419.out 1).trans rfl, (blk_cell BK419.out 2).trans rfl, (blk_cell BK423.out 0).trans rfl, (blk_cell BK423.out 1).trans rfl, (blk_cell BK423.out 2).trans rfl, (blk_cell BK413.out 0).trans rfl, (blk_cell BK413.out 1).trans rfl, (blk_cell BK413.out 2).trans rfl⟩ (fun hHeld => ?_)
                    clear hK K
                    refine norm_ (a' := ?_) ?_ ?_
                    rotate_left
                    · show Act.put _ (some 66) _ = _
                      simp only [Act.put, List.setIfInBounds_toArray, List.set_cons_zero, List.set_cons_succ, i64_w, i32_w]
                      rfl
                    refine pure_ (i := 12) (N := some 67) (v := ?_) (a' := ?_) #[true, true, true, true, true, true, true, true, true, true, true, true, true, false, false, false, false, false, false, false] rfl rfl (any_of HT_.out (by kernel_rfl)) (fun _ _ _ h => h) (Or.inl ⟨by rfl, ?_⟩) ?_ ?_
                    rotate_left
                    · intro w'
                      go_simp
                      with_reducible rfl
                    rotate_left
                    · simp only [Act.put, List.setIfInBounds_toArray, List.set_cons_zero, List.set_cons_succ, i64_w, i32_w]
                      rfl
                    refine pure_ (i := 13) (N := some 68) (v := undef) (a' := ?_) #[true, true, true, true, true, true, true, true, true, true, true, true, true, true, false, false, false, false, false, false] rfl rfl (any_of HT_.out (by kernel_rfl)) (fun _ _ _ h => h) (Or.inr ⟨by rfl, rfl⟩) ?_ ?_
                    rotate_left
                    · simp only [Act.put, List.setIfInBounds_toArray, List.set_cons_zero, List.set_cons_succ, i64_w, i32_w]
                      rfl
                    refine pure_ (i := 14) (N := some 69) (v := undef) (a' := ?_) #[true, true, true, true, true, true, true, true, true, true, true, true, true, true, true, false, false, false, false, false] rfl rfl (any_of HT_.out (by kernel_rfl)) (fun _ _ _ h => h) (Or.inr ⟨by rfl, rfl⟩) ?_ ?_
                    rotate_left
                    · simp only [Act.put, List.setIfInBounds_toArray, List.set_cons_zero, List.set_cons_succ, i64_w, i32_w]
                      rfl
                    refine pure_ (i := 15) (N := some 70) (v := undef) (a' := ?_) #[true, true, true, true, true, true, true, true, true, true, true, true, true, true, true, true, false, false, false, false] rfl rfl (any_of HT_.out (by kernel_rfl)) (fun _ _ _ h => h) (Or.inr ⟨by rfl, rfl⟩) ?_ ?_
                    rotate_left
                    · simp only [Act.put, List.setIfInBounds_toArray, List.set_cons_zero, List.set_cons_succ, i64_w, i32_w]
                      rfl
                    refine pure_ (i := 16) (N := some 71) (v := ?_) (a' := ?_) #[true, true, true, true, true, true, true, true, true, true, true, true, true, true, true, true, true, false, false, false] rfl rfl (any_of HT_.out (by kernel_rfl)) (fun _ _ _ h => h) (Or.inl ⟨by rfl, ?_⟩) ?_ ?_
                    rotate_left
                    · intro w'
                      go_simp
                      with_reducible rfl
                    rotate_left
                    · simp only [Act.put, List.setIfInBounds_toArray, List.set_cons_zero, List.set_cons_succ, i64_w, i32_w]
                      rfl
                    refine pure_ (i := 17) (N := some 72) (v := ?_) (a' := ?_) #[true, true, true, true, true, true, true, true, true, true, true, true, true, true, true, true, true, true, false, false] rfl rfl (any_of HT_.out (by kernel_rfl)) (fun _ _ _ h => h) (Or.inl ⟨by rfl, ?_⟩) ?_ ?_
                    rotate_left
                    · intro w'
                      go_simp
                      with_reducible rfl
                    rotate_left
                    · simp only [Act.put, List.setIfInBounds_toArray, List.set_cons_zero, List.set_cons_succ, i64_w, i32_w]
                      rfl
                    refine pure_ (i := 18) (N := some 73) (v := ?_) (a' := ?_) #[true, true, true, true, true, true, true, true, true, true, true, true, true, true, true, true, true, true, true, false] rfl rfl (any_of HT_.out (by kernel_rfl)) (fun _ _ _ h => h) (Or.inl ⟨by rfl, ?_⟩) ?_ ?_
                    rotate_left
                    · intro w'
                      go_simp
                      with_reducible rfl
                    rotate_left
                    · simp only [Act.put, List.setIfInBounds_toArray, List.set_cons_zero, List.set_cons_succ, i64_w, i32_w]
                      rfl
                    refine pure_ (i := 19) (N := some 6) (v := ?_) (a' := ?_) #[true, true, true, true, true, true, true, true, true, true, true, true, true, true, true, true, true, true, true, true] rfl rfl (any_of HT_.out (by kernel_rfl)) (fun _ _ _ h => h) (Or.inl ⟨by rfl, ?_⟩) ?_ ?_
                    rotate_left
                    · intro w'
                      go_simp
                      with_reducible rfl
                    rotate_left
                    · simp only [Act.put, List.setIfInBounds_toArray, List.set_cons_zero, List.set_cons_succ, i64_w, i32_w]
                      rfl
                    refine done_ (done_of HT_.out (by kernel_rfl)) ?_
                    try go_wp2
                    first | go_ret | refine ⟨_, results_tmp rfl _ _ _, ?_⟩
                    exact ⟨by first | rfl | (simp [errW_none, errW_some] <;> rfl) | (simp [*, errW_none, errW_some] <;> rfl), by repeat (first | (with_reducible first | exact HB.out | apply below_alloc | apply pw_below_drewN | apply below_drew1 | refine below_set ?_ GE413.out | refine below_set ?_ GE414.out | refine below_set ?_ GE419.out | refine below_set ?_ GE423.out) | exact HB.out)⟩
                  · replace c75 := Bool.eq_false_iff.mpr c75
                    subst c75
                    have H1 : ((pat_Match.f k2 a1_0 l1_1 l1_2 l2).bind fun t433 => (some (t431 == t433))) = some r := by rw [if_neg (show ¬ (false = true) by decide)] at H; exact H
                    clear H
                    have H := H1
                    clear H1
                    replace H := Option.bind_eq_some_iff.mp H
                    obtain ⟨t433, A800, H⟩ := H
                    replace H : (some (t431 == t433)) = some r := H
                    have A80 := Aside0.mk A800
                    clear A800
                    obtain rfl := Option.some.inj H
                    try go_wp2
                    have n0_ := Aside0.mk (Kd.V_drew HO_414001.out)
                    have n1_ := Aside0.mk (Kd.V_drew HO_414002.out)
                    have n2_ := Aside0.mk (Kd.V_drew HO_415001.out)
                    have n3_ := Aside0.mk (Kd.V_drew HO_415002.out)
                    have n4_ := Aside0.mk (Kd.N_drew HO_420002.out)
                    have n5_ := Aside0.mk (Kd.N_drew HO_424002.out)
                    have n6_ := Aside0.mk (blk_drew BK413.out)
                    have n7_ := Aside0.mk (blk_drew BK414.out)
                    have n8_ := Aside0.mk (blk_drew BK419.out)
                    have n9_ := Aside0.mk (blk_drew BK423.out)
                    have n10_ := Aside0.mk (below_drew1 HB.out)
                    clear HO_414001
                    clear HO_414002
                    clear HO_415001
                    clear HO_415002
                    clear HO_420002
                    clear HO_424002
                    clear BK413
                    clear BK414
                    clear BK419
                    clear BK423
                    clear HB
                    have HO_414001 := n0_
                    have HO_414002 := n1_
                    have HO_415001 := n2_
                    have HO_415002 := n3_
                    have HO_420002 := n4_
                    have HO_424002 := n5_
                    have BK413 := n6_
                    have BK414 := n7_
                    have BK419 := n8_
                    have BK423 := n9_
                    have HB := n10_
                    clear n0_ n1_ n2_ n3_ n4_ n5_ n6_ n7_ n8_ n9_ n10_
                    refine start_ (n := 20) (S := fun w' => w'.cell? ⟨gb419, 0, none⟩ = some (.int .i64 2) ∧ w'.cell? ⟨gb419, 1, none⟩ = some (.slice none 0 0) ∧ w'.cell? ⟨gb419, 2, none⟩ = some (.slice Ao15 y416.length co15) ∧ w'.cell? ⟨gb423, 0, none⟩ = some (.int .i64 3) ∧ w'.cell? ⟨gb423, 1, none⟩ = some (.slice none 0 0) ∧ w'.cell? ⟨gb423, 2, none⟩ = some (.slice Ao25 y420.length co25) ∧ w'.cell? ⟨gb413, 0, none⟩ = some (.int .i64 a0_0) ∧ w'.cell? ⟨gb413, 1, none⟩ = some (.slice A0_1 l0_1.length c0_1) ∧ w'.cell? ⟨gb413, 2, none⟩ = some (.slice A0_2 l0_2.length c0_2) ∧ w'.cell? ⟨gb414, 0, none⟩ = some (.int .i64 a1_0) ∧ w'.cell? ⟨gb414, 1, none⟩ = some (.slice A1_1 l1_1.length c1_1) ∧ w'.cell? ⟨gb414, 2, none⟩ = some (.slice A1_2 l1_2.length c1_2)) (ds := []) #[false, false, false, false, false, false, false, false, false, false, false, false, false, false, false, false, false, false, false, false] (by kernel_rfl) rfl rfl ⟨(blk_cell BK419.out 0).trans rfl, (blk_cell BK419.out 1).trans rfl, (blk_cell BK419.out 2).trans rfl, (blk_cell BK423.out 0).trans rfl, (blk_cell BK423.out 1).trans rfl, (blk_cell BK423.out 2).trans rfl, (blk_cell BK413.out 0).trans rfl, (blk_cell BK413.out 1).trans rfl, (blk_cell BK413.out 2).trans rfl, (blk_cell BK414.out 0).trans rfl, (blk_cell BK414.out 1).trans rfl, (blk_cell BK414.out 2).trans rfl⟩ (fun hHeld => ?_); refine with_tabW dragomanlaw05_PatJoins.tab13 dragomanlaw05_PatJoins.bits13 (fun HT_ HW_ => ?_)
                    generalize wr.drew = w81 at HO_414001 HO_414002 HO_415001 HO_415002 HO_420002 HO_424002 BK413 BK414 BK419 BK423 HB hHeld ⊢
                    refine pure_ (i := 1) (N := some 56) (v := ?_) (a' := ?_) #[false, true, false, false, false, false, false, false, false, false, false, false, false, false, false, false, false, false, false, false] rfl rfl (any_of HT_.out (by kernel_rfl)) (fun _ _ _ h => h) (Or.inl ⟨by rfl, ?_⟩) ?_ ?_
                    rotate_left
                    · intro w'
                      go_simp
                      with_reducible rfl
                    rotate_left
                    · simp only [Act.put, List.setIfInBounds_toArray, List.set_cons_zero, List.set_cons_succ, i64_w, i32_w]
                      rfl
                    refine pure_ (i := 3) (N := some 58) (v := ?_) (a' := ?_) #[false, true, false, true, false, false, false, false, false, false, false, false, false, false, false, false, false, false, false, false] rfl rfl (any_of HT_.out (by kernel_rfl)) (fun _ _ _ h => h) (Or.inl ⟨by rfl, ?_⟩) ?_ ?_
                    rotate_left
                    · intro w'
                      go_simp
                      with_reducible rfl
                    rotate_left
                    · simp only [Act.put, List.setIfInBounds_toArray, List.set_cons_zero, List.set_cons_succ, i64_w, i32_w]
                      rfl
                    refine take_ (i := 0) (N := some 55) (v := ?_) (a' := ?_) #[true, true, false, true, false, false, false, false, false, false, false, false, false, false, false, false, false, false, false, false] rfl rfl (take_ofW HT_.out HW_.out (by kernel_rfl)) (fun _ _ _ h => h) (Or.inl ⟨by rfl, ?_⟩) hHeld ?_ ?_
                    rotate_left
                    · rintro w' ⟨s0, s1, s2, s3, s4, s5, s6, s7, s8, s9, s10, s11⟩
                      go_simp
                      with_reducible rfl
                    rotate_left
                    · simp only [Act.put, List.setIfInBounds_toArray, List.set_cons_zero, List.set_cons_succ, i64_w, i32_w]
                      rfl
                    refine one_ (i := 2) (N := some 57) #[true, true, true, true, false, false, false, false, false, false, false, false, false, false, false, false, false, false, false, false] rfl rfl (one_of HT_.out (by kernel_rfl)) (by decide) (fun K hK => ?_)
                    refine goes_ Try.func18 (by kernel_rfl) rfl #[.agg #[.int .i64 2, .slice none 0 0, .slice Ao15 y416.length co15], .slice A2 l2.length c2] (by rfl) rfl rfl (by (try simp only [List.map_toArray, List.map_cons, List.map_nil]); first | done | rfl | (simp only [List.length_drop, List.length_take]; rfl)) ?_
                    refine (pat_Match.calls k2 2 _ _ ([] : List (S66)) _ _ y416 _ _ l2 t430 _ ?side1 ?side2 ?side3 ?side4 ?side5 ?side6 A71.out).mono ?_
                    (case side1 => exact Kd.C_nil _ _)
                    (case side2 => exact Nat.le_refl _)
                    (case side3 => repeat (first | exact (Kd.N_reads' HO_420002.out).2.2 | (with_reducible refine Kd.C_alloc ?_ _) | (with_reducible refine Kd.C_drewN ?_ _) | (with_reducible refine Kd.C_drew ?_)))
                    (case side4 => exact (Kd.N_reads' HO_420002.out).2.1)
                    (case side5 => repeat (first | exact (Kd.C_below HR2.out HB.out) | (with_reducible refine Kd.C_alloc ?_ _) | (with_reducible refine Kd.C_drewN ?_ _) | (with_reducible refine Kd.C_drew ?_)))
                    (case side6 => exact HC2.out)
                    rintro e w82 ⟨rfl, hb⟩
                    refine ⟨_, rfl, ?_⟩
                    have n0_ := Aside0.mk (Kd.V_below (by (with_reducible repeat (first | apply Kd.V_alloc | apply Kd.V_drewN | apply Kd.V_drew)); exact HO_414001.out) hb)
                    have n1_ := Aside0.mk (Kd.V_below (by (with_reducible repeat (first | apply Kd.V_alloc | apply Kd.V_drewN | apply Kd.V_drew)); exact HO_414002.out) hb)
                    have n2_ := Aside0.mk (Kd.V_below (by (with_reducible repeat (first | apply Kd.V_alloc | apply Kd.V_drewN | apply Kd.V_drew)); exact HO_415001.out) hb)
                    have n3_ := Aside0.mk (Kd.V_below (by (with_reducible repeat (first | apply Kd.V_alloc | apply Kd.V_drewN | apply Kd.V_drew)); exact HO_415002.out) hb)
                    have n4_ := Aside0.mk (Kd.N_below (by (with_reducible repeat (first | apply Kd.N_alloc | apply Kd.N_drewN | apply Kd.N_drew)); exact HO_420002.out) hb)
                    have n5_ := Aside0.mk (Kd.N_below (by (with_reducible repeat (first | apply Kd.N_alloc | apply Kd.N_drewN | apply Kd.N_drew)); exact HO_424002.out) hb)
                    have n6_ := Aside0.mk (blk_below (g := gb413) (o := .cells #[.int .i64 a0_0, .slice A0_1 l0_1.length c0_1, .slice A0_2 l0_2.length c0_2] 25 (0, 0)) (by (with_reducible repeat (first | refine blk_drewN ?_ _ | refine blk_drew ?_ | refine blk_alloc ?_ _)); exact BK413.out) hb)
                    have n7_ := Aside0.mk (blk_below (g := gb414) (o := .cells #[.int .i64 a1_0, .slice A1_1 l1_1.length c1_1, .slice A1_2 l1_2.length c1_2] 25 (0, 0)) (by (with_reducible repeat (first | refine blk_drewN ?_ _ | refine blk_drew ?_ | refine blk_alloc ?_ _)); exact BK414.out) hb)
                    have n8_ := Aside0.mk (blk_below (g := gb419) (o := .cells #[.int .i64 2, .slice none 0 0, .slice Ao15 y416.length co15] 25 (0, 0)) (by (with_reducible repeat (first | refine blk_drewN ?_ _ | refine blk_drew ?_ | refine blk_alloc ?_ _)); exact BK419.out) hb)
                    have n9_ := Aside0.mk (blk_below (g := gb423) (o := .cells #[.int .i64 3, .slice none 0 0, .slice Ao25 y420.length co25] 25 (0, 0)) (by (with_reducible repeat (first | refine blk_drewN ?_ _ | refine blk_drew ?_ | refine blk_alloc ?_ _)); exact BK423.out) hb)
                    have n10_ := Aside0.mk (below_step (by repeat (first | (with_reducible first | exact HB.out | apply below_alloc | apply pw_below_drewN | apply below_drew1 | refine below_set ?_ GE413.out | refine below_set ?_ GE414.out | refine below_set ?_ GE419.out | refine below_set ?_ GE423.out) | exact HB.out)) hb)
                    clear HO_414001
                    clear HO_414002
                    clear HO_415001
                    clear HO_415002
                    clear HO_420002
                    clear HO_424002
                    clear BK413
                    clear BK414
                    clear BK419
                    clear BK423
                    clear HB
                    have HO_414001 := n0_
                    have HO_414002 := n1_
                    have HO_415001 := n2_
                    have HO_415002 := n3_
                    have HO_420002 := n4_
                    have HO_424002 := n5_
                    have BK413 := n6_
                    have BK414 := n7_
                    have BK419 := n8_
                    have BK423 := n9_
                    have HB := n10_
                    clear n0_ n1_ n2_ n3_ n4_ n5_ n6_ n7_ n8_ n9_ n10_
                    (try clear hb)
                    (try clear hb2)
                    (try clear hk)
                    (try clear hi)
                    refine hK.out _ _ ⟨(blk_cell BK419.out 0).trans rfl, (blk_cell BK419.out 1).trans rfl, (blk_cell BK419.out 2).trans rfl, (blk_cell BK423.out 0).trans rfl, (blk_cell BK423.out 1).trans rfl, (blk_cell BK423.out 2).trans rfl, (blk_cell BK413.out 0).trans rfl, (blk_cell BK413.out 1).trans rfl, (blk_cell BK413.out 2).trans rfl, (blk_cell BK414.out 0).trans rfl, (blk_cell BK414.out 1).trans rfl, (blk_cell BK414.out 2).trans rfl⟩ (fun hHeld => ?_)
                    clear hK K
                    refine norm_ (a' := ?_) ?_ ?_
                    rotate_left
                    · show Act.put _ (some 57) _ = _
                      simp only [Act.put, List.setIfInBounds_toArray, List.set_cons_zero, List.set_cons_succ, i64_w, i32_w]
                      rfl
                    refine pure_ (i := 4) (N := some 59) (v := ?_) (a' := ?_) #[true, true, true, true, true, false, false, false, false, false, false, false, false, false, false, false, false, false, false, false] rfl rfl (any_of HT_.out (by kernel_rfl)) (fun _ _ _ h => h) (Or.inl ⟨by rfl, ?_⟩) ?_ ?_
                    rotate_left
                    · intro w'
                      go_simp
                      with_reducible rfl
                    rotate_left
                    · simp only [Act.put, List.setIfInBounds_toArray, List.set_cons_zero, List.set_cons_succ, i64_w, i32_w]
                      rfl
                    refine pure_ (i := 5) (N := some 60) (v := ?_) (a' := ?_) #[true, true, true, true, true, true, false, false, false, false, false, false, false, false, false, false, false, false, false, false] rfl rfl (any_of HT_.out (by kernel_rfl)) (fun _ _ _ h => h) (Or.inl ⟨by rfl, ?_⟩) ?_ ?_
                    rotate_left
                    · intro w'
                      go_simp
                      with_reducible rfl
                    rotate_left
                    · simp only [Act.put, List.setIfInBounds_toArray, List.set_cons_zero, List.set_cons_succ, i64_w, i32_w]
                      rfl
                    refine pure_ (i := 7) (N := some 62) (v := ?_) (a' := ?_) #[true, true, true, true, true, true, false, true, false, false, false, false, false, false, false, false, false, false, false, false] rfl rfl (any_of HT_.out (by kernel_rfl)) (fun _ _ _ h => h) (Or.inl ⟨by rfl, ?_⟩) ?_ ?_
                    rotate_left
                    · intro w'
                      go_simp
                      with_reducible rfl
                    rotate_left
                    · simp only [Act.put, List.setIfInBounds_toArray, List.set_cons_zero, List.set_cons_succ, i64_w, i32_w]
                      rfl
                    refine pure_ (i := 10) (N := some 65) (v := ?_) (a' := ?_) #[true, true, true, true, true, true, false, true, false, false, true, false, false, false, false, false, false, false, false, false] rfl rfl (any_of HT_.out (by kernel_rfl)) (fun _ _ _ h => h) (Or.inl ⟨by rfl, ?_⟩) ?_ ?_
                    rotate_left
                    · intro w'
                      go_simp
                      with_reducible rfl
                    rotate_left
                    · simp only [Act.put, List.setIfInBounds_toArray, List.set_cons_zero, List.set_cons_succ, i64_w, i32_w]
                      rfl
                    refine take_ (i := 6) (N := some 61) (v := ?_) (a' := ?_) #[true, true, true, true, true, true, true, true, false, false, true, false, false, false, false, false, false, false, false, false] rfl rfl (take_ofW HT_.out HW_.out (by kernel_rfl)) (fun _ _ _ h => h) (Or.inl ⟨by rfl, ?_⟩) hHeld ?_ ?_
                    rotate_left
                    · rintro w' ⟨s0, s1, s2, s3, s4, s5, s6, s7, s8, s9, s10, s11⟩
                      go_simp
                      with_reducible rfl
                    rotate_left
                    · simp only [Act.put, List.setIfInBounds_toArray, List.set_cons_zero, List.set_cons_succ, i64_w, i32_w]
                      rfl
                    refine take_ (i := 9) (N := some 64) (v := ?_) (a' := ?_) #[true, true, true, true, true, true, true, true, false, true, true, false, false, false, false, false, false, false, false, false] rfl rfl (take_ofW HT_.out HW_.out (by kernel_rfl)) (fun _ _ _ h => h) (Or.inl ⟨by rfl, ?_⟩) hHeld ?_ ?_
                    rotate_left
                    · rintro w' ⟨s0, s1, s2, s3, s4, s5, s6, s7, s8, s9, s10, s11⟩
                      go_simp
                      with_reducible rfl
                    rotate_left
                    · simp only [Act.put, List.setIfInBounds_toArray, List.set_cons_zero, List.set_cons_succ, i64_w, i32_w]
                      rfl
                    refine one_ (i := 8) (N := some 63) #[true, true, true, true, true, true, true, true, true, true, true, false, false, false, false, false, false, false, false, false] rfl rfl (one_of HT_.out (by kernel_rfl)) (by decide) (fun K hK => ?_)
                    refine goes_ Try.func18 (by kernel_rfl) rfl #[.agg #[.int .i64 3, .slice none 0 0, .slice Ao25 y420.length co25], .slice A2 l2.length c2] (by rfl) rfl rfl (by (try simp only [List.map_toArray, List.map_cons, List.map_nil]); first | done | rfl | (simp only [List.length_drop, List.length_take]; rfl)) ?_
                    refine (pat_Match.calls k2 3 _ _ ([] : List (S66)) _ _ y420 _ _ l2 t431 _ ?side1 ?side2 ?side3 ?side4 ?side5 ?side6 A73.out).mono ?_
                    (case side1 => exact Kd.C_nil _ _)
                    (case side2 => exact Nat.le_refl _)
                    (case side3 => repeat (first | exact (Kd.N_reads' HO_424002.out).2.2 | (with_reducible refine Kd.C_alloc ?_ _) | (with_reducible refine Kd.C_drewN ?_ _) | (with_reducible refine Kd.C_drew ?_)))
                    (case side4 => exact (Kd.N_reads' HO_424002.out).2.1)
                    (case side5 => repeat (first | exact (Kd.C_below HR2.out HB.out) | (with_reducible refine Kd.C_alloc ?_ _) | (with_reducible refine Kd.C_drewN ?_ _) | (with_reducible refine Kd.C_drew ?_)))
                    (case side6 => exact HC2.out)
                    rintro e w83 ⟨rfl, hb⟩
                    refine ⟨_, rfl, ?_⟩
                    have n0_ := Aside0.mk (Kd.V_below (by (with_reducible repeat (first | apply Kd.V_alloc | apply Kd.V_drewN | apply Kd.V_drew)); exact HO_414001.out) hb)
                    have n1_ := Aside0.mk (Kd.V_below (by (with_reducible repeat (first | apply Kd.V_alloc | apply Kd.V_drewN | apply Kd.V_drew)); exact HO_414002.out) hb)
                    have n2_ := Aside0.mk (Kd.V_below (by (with_reducible repeat (first | apply Kd.V_alloc | apply Kd.V_drewN | apply Kd.V_drew)); exact HO_415001.out) hb)
                    have n3_ := Aside0.mk (Kd.V_below (by (with_reducible repeat (first | apply Kd.V_alloc | apply Kd.V_drewN | apply Kd.V_drew)); exact HO_415002.out) hb)
                    have n4_ := Aside0.mk (Kd.N_below (by (with_reducible repeat (first | apply Kd.N_alloc | apply Kd.N_drewN | apply Kd.N_drew)); exact HO_420002.out) hb)
                    have n5_ := Aside0.mk (Kd.N_below (by (with_reducible repeat (first | apply Kd.N_alloc | apply Kd.N_drewN | apply Kd.N_drew)); exact HO_424002.out) hb)
                    have n6_ := Aside0.mk (blk_below (g := gb413) (o := .cells #[.int .i64 a0_0, .slice A0_1 l0_1.length c0_1, .slice A0_2 l0_2.length c0_2] 25 (0, 0)) (by (with_reducible repeat (first | refine blk_drewN ?_ _ | refine blk_drew ?_ | refine blk_alloc ?_ _)); exact BK413.out) hb)
                    have n7_ := Aside0.mk (blk_below (g := gb414) (o := .cells #[.int .i64 a1_0, .slice A1_1 l1_1.length c1_1, .slice A1_2 l1_2.length c1_2] 25 (0, 0)) (by (with_reducible repeat (first | refine blk_drewN ?_ _ | refine blk_drew ?_ | refine blk_alloc ?_ _)); exact BK414.out) hb)
                    have n8_ := Aside0.mk (blk_below (g := gb419) (o := .cells #[.int .i64 2, .slice none 0 0, .slice Ao15 y416.length co15] 25 (0, 0)) (by (with_reducible repeat (first | refine blk_drewN ?_ _ | refine blk_drew ?_ | refine blk_alloc ?_ _)); exact BK419.out) hb)
                    have n9_ := Aside0.mk (blk_below (g := gb423) (o := .cells #[.int .i64 3, .slice none 0 0, .slice Ao25 y420.length co25] 25 (0, 0)) (by (with_reducible repeat (first | refine blk_drewN ?_ _ | refine blk_drew ?_ | refine blk_alloc ?_ _)); exact BK423.out) hb)
                    have n10_ := Aside0.mk (below_step (by repeat (first | (with_reducible first | exact HB.out | apply below_alloc | apply pw_below_drewN | apply below_drew1 | refine below_set ?_ GE413.out | refine below_set ?_ GE414.out | refine below_set ?_ GE419.out | refine below_set ?_ GE423.out) | exact HB.out)) hb)
                    clear HO_414001
                    clear HO_414002
                    clear HO_415001
                    clear HO_415002
                    clear HO_420002
                    clear HO_424002
                    clear BK413
                    clear BK414
                    clear BK419
                    clear BK423
                    clear HB
                    have HO_414001 := n0_
                    have HO_414002 := n1_
                    have HO_415001 := n2_
                    have HO_415002 := n3_
                    have HO_420002 := n4_
                    have HO_424002 := n5_
                    have BK413 := n6_
                    have BK414 := n7_
                    have BK419 := n8_
                    have BK423 := n9_
                    have HB := n10_
                    clear n0_ n1_ n2_ n3_ n4_ n5_ n6_ n7_ n8_ n9_ n10_
                    (try clear hb)
                    (try clear hb2)
                    (try clear hk)
                    (try clear hi)
                    refine hK.out _ _ ⟨(blk_cell BK419.out 0).trans rfl, (blk_cell BK419.out 1).trans rfl, (blk_cell BK419.out 2).trans rfl, (blk_cell BK423.out 0).trans rfl, (blk_cell BK423.out 1).trans rfl, (blk_cell BK423.out 2).trans rfl, (blk_cell BK413.out 0).trans rfl, (blk_cell BK413.out 1).trans rfl, (blk_cell BK413.out 2).trans rfl, (blk_cell BK414.out 0).trans rfl, (blk_cell BK414.out 1).trans rfl, (blk_cell BK414.out 2).trans rfl⟩ (fun hHeld => ?_)
                    clear hK K
                    refine norm_ (a' := ?_) ?_ ?_
                    rotate_left
                    · show Act.put _ (some 63) _ = _
                      simp only [Act.put, List.setIfInBounds_toArray, List.set_cons_zero, List.set_cons_succ, i64_w, i32_w]
                      rfl
                    refine one_ (i := 11) (N := some 66) #[true, true, true, true, true, true, true, true, true, true, true, true, false, false, false, false, false, false, false, false] rfl rfl (one_of HT_.out (by kernel_rfl)) (by decide) (fun K hK => ?_)
                    refine goes_ Try.func18 (by kernel_rfl) rfl #[.agg #[.int .i64 a0_0, .slice A0_1 l0_1.length c0_1, .slice A0_2 l0_2.length c0_2], .slice A2 l2.length c2] (by rfl) rfl rfl (by (try simp only [List.map_toArray, List.map_cons, List.map_nil]); first | done | rfl | (simp only [List.length_drop, List.length_take]; rfl)) ?_
                    with_reducible refine (pat_Match.calls k2 a0_0 _ _ l0_1 _ _ l0_2 _ _ l2 false _ ?side1 ?side2 ?side3 ?side4 ?side5 ?side6 A74.out).mono ?_
                    (case side1 => repeat (first | exact (Kd.V_reads' HO_414001.out).2.2 | (with_reducible refine Kd.C_alloc ?_ _) | (with_reducible refine Kd.C_drewN ?_ _) | (with_reducible refine Kd.C_drew ?_)))
                    (case side2 => exact (Kd.V_reads' HO_414001.out).2.1)
                    (case side3 => repeat (first | exact (Kd.V_reads' HO_414002.out).2.2 | (with_reducible refine Kd.C_alloc ?_ _) | (with_reducible refine Kd.C_drewN ?_ _) | (with_reducible refine Kd.C_drew ?_)))
                    (case side4 => exact (Kd.V_reads' HO_414002.out).2.1)
                    (case side5 => repeat (first | exact (Kd.C_below HR2.out HB.out) | (with_reducible refine Kd.C_alloc ?_ _) | (with_reducible refine Kd.C_drewN ?_ _) | (with_reducible refine Kd.C_drew ?_)))
                    (case side6 => exact HC2.out)
                    rintro e w84 ⟨rfl, hb⟩
                    refine ⟨_, rfl, ?_⟩
                    have n0_ := Aside0.mk (Kd.V_below (by (with_reducible repeat (first | apply Kd.V_alloc | apply Kd.V_drewN | apply Kd.V_drew)); exact HO_414001.out) hb)
                    have n1_ := Aside0.mk (Kd.V_below (by (with_reducible repeat (first | apply Kd.V_alloc | apply Kd.V_drewN | apply Kd.V_drew)); exact HO_414002.out) hb)
                    have n2_ := Aside0.mk (Kd.V_below (by (with_reducible repeat (first | apply Kd.V_alloc | apply Kd.V_drewN | apply Kd.V_drew)); exact HO_415001.out) hb)
                    have n3_ := Aside0.mk (Kd.V_below (by (with_reducible repeat (first | apply Kd.V_alloc | apply Kd.V_drewN | apply Kd.V_drew)); exact HO_415002.out) hb)
                    have n4_ := Aside0.mk (Kd.N_below (by (with_reducible repeat (first | apply Kd.N_alloc | apply Kd.N_drewN | apply Kd.N_drew)); exact HO_420002.out) hb)
                    have n5_ := Aside0.mk (Kd.N_below (by (with_reducible repeat (first | apply Kd.N_alloc | apply Kd.N_drewN | apply Kd.N_drew)); exact HO_424002.out) hb)
                    have n6_ := Aside0.mk (blk_below (g := gb413) (o := .cells #[.int .i64 a0_0, .slice A0_1 l0_1.length c0_1, .slice A0_2 l0_2.length c0_2] 25 (0, 0)) (by (with_reducible repeat (first | refine blk_drewN ?_ _ | refine blk_drew ?_ | refine blk_alloc ?_ _)); exact BK413.out) hb)
                    have n7_ := Aside0.mk (blk_below (g := gb414) (o := .cells #[.int .i64 a1_0, .slice A1_1 l1_1.length c1_1, .slice A1_2 l1_2.length c1_2] 25 (0, 0)) (by (with_reducible repeat (first | refine blk_drewN ?_ _ | refine blk_drew ?_ | refine blk_alloc ?_ _)); exact BK414.out) hb)
                    have n8_ := Aside0.mk (blk_below (g := gb419) (o := .cells #[.int .i64 2, .slice none 0 0, .slice Ao15 y416.length co15] 25 (0, 0)) (by (with_reducible repeat (first | refine blk_drewN ?_ _ | refine blk_drew ?_ | refine blk_alloc ?_ _)); exact BK419.out) hb)
                    have n9_ := Aside0.mk (blk_below (g := gb423) (o := .cells #[.int .i64 3, .slice none 0 0, .slice Ao25 y420.length co25] 25 (0, 0)) (by (with_reducible repeat (first | refine blk_drewN ?_ _ | refine blk_drew ?_ | refine blk_alloc ?_ _)); exact BK423.out) hb)
                    have n10_ := Aside0.mk (below_step (by repeat (first | (with_reducible first | exact HB.out | apply below_alloc | apply pw_below_drewN | apply below_drew1 | refine below_set ?_ GE413.out | refine below_set ?_ GE414.out | refine below_set ?_ GE419.out | refine below_set ?_ GE423.out) | exact HB.out)) hb)
                    clear HO_414001
                    clear HO_414002
                    clear HO_415001
                    clear HO_415002
                    clear HO_420002
                    clear HO_424002
                    clear BK413
                    clear BK414
                    clear BK419
                    clear BK423
                    clear HB
                    have HO_414001 := n0_
                    have HO_414002 := n1_
                    have HO_415001 := n2_
                    have HO_415002 := n3_
                    have HO_420002 := n4_
                    have HO_424002 := n5_
                    have BK413 := n6_
                    have BK414 := n7_
                    have BK419 := n8_
                    have BK423 := n9_
                    have HB := n10_
                    clear n0_ n1_ n2_ n3_ n4_ n5_ n6_ n7_ n8_ n9_ n10_
                    (try clear hb)
                    (try clear hb2)
                    (try clear hk)
                    (try clear hi)
                    refine hK.out _ _ ⟨(blk_cell BK419.out 0).trans rfl, (blk_cell BK419.out 1).trans rfl, (blk_cell BK419.out 2).trans rfl, (blk_cell BK423.out 0).trans rfl, (blk_cell BK423.out 1).trans rfl, (blk_cell BK423.out 2).trans rfl, (blk_cell BK413.out 0).trans rfl, (blk_cell BK413.out 1).trans rfl, (blk_cell BK413.out 2).trans rfl, (blk_cell BK414.out 0).trans rfl, (blk_cell BK414.out 1).trans rfl, (blk_cell BK414.out 2).trans rfl⟩ (fun hHeld => ?_)
                    clear hK K
                    refine norm_ (a' := ?_) ?_ ?_
                    rotate_left
                    · show Act.put _ (some 66) _ = _
                      simp only [Act.put, List.setIfInBounds_toArray, List.set_cons_zero, List.set_cons_succ, i64_w, i32_w]
                      rfl
                    refine pure_ (i := 12) (N := some 67) (v := ?_) (a' := ?_) #[true, true, true, true, true, true, true, true, true, true, true, true, true, false, false, false, false, false, false, false] rfl rfl (any_of HT_.out (by kernel_rfl)) (fun _ _ _ h => h) (Or.inl ⟨by rfl, ?_⟩) ?_ ?_
                    rotate_left
                    · intro w'
                      go_simp
                      with_reducible rfl
                    rotate_left
                    · simp only [Act.put, List.setIfInBounds_toArray, List.set_cons_zero, List.set_cons_succ, i64_w, i32_w]
                      rfl
                    refine pure_ (i := 14) (N := some 69) (v := ?_) (a' := ?_) #[true, true, true, true, true, true, true, true, true, true, true, true, true, false, true, false, false, false, false, false] rfl rfl (any_of HT_.out (by kernel_rfl)) (fun _ _ _ h => h) (Or.inl ⟨by rfl, ?_⟩) ?_ ?_
                    rotate_left
                    · intro w'
                      go_simp
                      with_reducible rfl
                    rotate_left
                    · simp only [Act.put, List.setIfInBounds_toArray, List.set_cons_zero, List.set_cons_succ, i64_w, i32_w]
                      rfl
                    refine take_ (i := 13) (N := some 68) (v := ?_) (a' := ?_) #[true, true, true, true, true, true, true, true, true, true, true, true, true, true, true, false, false, false, false, false] rfl rfl (take_ofW HT_.out HW_.out (by kernel_rfl)) (fun _ _ _ h => h) (Or.inl ⟨by rfl, ?_⟩) hHeld ?_ ?_
                    rotate_left
                    · rintro w' ⟨s0, s1, s2, s3, s4, s5, s6, s7, s8, s9, s10, s11⟩
                      go_simp
                      with_reducible rfl
                    rotate_left
                    · simp only [Act.put, List.setIfInBounds_toArray, List.set_cons_zero, List.set_cons_succ, i64_w, i32_w]
                      rfl
                    refine one_ (i := 15) (N := some 70) #[true, true, true, true, true, true, true, true, true, true, true, true, true, true, true, true, false, false, false, false] rfl rfl (one_of HT_.out (by kernel_rfl)) (by decide) (fun K hK => ?_)
                    refine goes_ Try.func18 (by kernel_rfl) rfl #[.agg #[.int .i64 a1_0, .slice A1_1 l1_1.length c1_1, .slice A1_2 l1_2.length c1_2], .slice A2 l2.length c2] (by rfl) rfl rfl (by (try simp only [List.map_toArray, List.map_cons, List.map_nil]); first | done | rfl | (simp only [List.length_drop, List.length_take]; rfl)) ?_
                    with_reducible refine (pat_Match.calls k2 a1_0 _ _ l1_1 _ _ l1_2 _ _ l2 t433 _ ?side1 ?side2 ?side3 ?side4 ?side5 ?side6 A80.out).mono ?_
                    (case side1 => repeat (first | exact (Kd.V_reads' HO_415001.out).2.2 | (with_reducible refine Kd.C_alloc ?_ _) | (with_reducible refine Kd.C_drewN ?_ _) | (with_reducible refine Kd.C_drew ?_)))
                    (case side2 => exact (Kd.V_reads' HO_415001.out).2.1)
                    (case side3 => repeat (first | exact (Kd.V_reads' HO_415002.out).2.2 | (with_reducible refine Kd.C_alloc ?_ _) | (with_reducible refine Kd.C_drewN ?_ _) | (with_reducible refine Kd.C_drew ?_)))
                    (case side4 => exact (Kd.V_reads' HO_415002.out).2.1)
                    (case side5 => repeat (first | exact (Kd.C_below HR2.out HB.out) | (with_reducible refine Kd.C_alloc ?_ _) | (with_reducible refine Kd.C_drewN ?_ _) | (with_reducible refine Kd.C_drew ?_)))
                    (case side6 => exact HC2.out)
                    rintro e w85 ⟨rfl, hb⟩
                    refine ⟨_, rfl, ?_⟩
                    have n0_ := Aside0.mk (Kd.V_below (by (with_reducible repeat (first | apply Kd.V_alloc | apply Kd.V_drewN | apply Kd.V_drew)); exact HO_414001.out) hb)
                    have n1_ := Aside0.mk (Kd.V_below (by (with_reducible repeat (first | apply Kd.V_alloc | apply Kd.V_drewN | apply Kd.V_drew)); exact HO_414002.out) hb)
                    have n2_ := Aside0.mk (Kd.V_below (by (with_reducible repeat (first | apply Kd.V_alloc | apply Kd.V_drewN | apply Kd.V_drew)); exact HO_415001.out) hb)
                    have n3_ := Aside0.mk (Kd.V_below (by (with_reducible repeat (first | apply Kd.V_alloc | apply Kd.V_drewN | apply Kd.V_drew)); exact HO_415002.out) hb)
                    have n4_ := Aside0.mk (Kd.N_below (by (with_reducible repeat (first | apply Kd.N_alloc | apply Kd.N_drewN | apply Kd.N_drew)); exact HO_420002.out) hb)
                    have n5_ := Aside0.mk (Kd.N_below (by (with_reducible repeat (first | apply Kd.N_alloc | apply Kd.N_drewN | apply Kd.N_drew)); exact HO_424002.out) hb)
                    have n6_ := Aside0.mk (blk_below (g := gb413) (o := .cells #[.int .i64 a0_0, .slice A0_1 l0_1.length c0_1, .slice A0_2 l0_2.length c0_2] 25 (0, 0)) (by (with_reducible repeat (first | refine blk_drewN ?_ _ | refine blk_drew ?_ | refine blk_alloc ?_ _)); exact BK413.out) hb)
                    have n7_ := Aside0.mk (blk_below (g := gb414) (o := .cells #[.int .i64 a1_0, .slice A1_1 l1_1.length c1_1, .slice A1_2 l1_2.length c1_2] 25 (0, 0)) (by (with_reducible repeat (first | refine blk_drewN ?_ _ | refine blk_drew ?_ | refine blk_alloc ?_ _)); exact BK414.out) hb)
                    have n8_ := Aside0.mk (blk_below (g := gb419) (o := .cells #[.int .i64 2, .slice none 0 0, .slice Ao15 y416.length co15] 25 (0, 0)) (by (with_reducible repeat (first | refine blk_drewN ?_ _ | refine blk_drew ?_ | refine blk_alloc ?_ _)); exact BK419.out) hb)
                    have n9_ := Aside0.mk (blk_below (g := gb423) (o := .cells #[.int .i64 3, .slice none 0 0, .slice Ao25 y420.length co25] 25 (0, 0)) (by (with_reducible repeat (first | refine blk_drewN ?_ _ | refine blk_drew ?_ | refine blk_alloc ?_ _)); exact BK423.out) hb)
                    have n10_ := Aside0.mk (below_step (by repeat (first | (with_reducible first | exact HB.out | apply below_alloc | apply pw_below_drewN | apply below_drew1 | refine below_set ?_ GE413.out | refine below_set ?_ GE414.out | refine below_set ?_ GE419.out | refine below_set ?_ GE423.out) | exact HB.out)) hb)
                    clear HO_414001
                    clear HO_414002
                    clear HO_415001
                    clear HO_415002
                    clear HO_420002
                    clear HO_424002
                    clear BK413
                    clear BK414
                    clear BK419
                    clear BK423
                    clear HB
                    have HO_414001 := n0_
                    have HO_414002 := n1_
                    have HO_415001 := n2_
                    have HO_415002 := n3_
                    have HO_420002 := n4_
                    have HO_424002 := n5_
                    have BK413 := n6_
                    have BK414 := n7_
                    have BK419 := n8_
                    have BK423 := n9_
                    have HB := n10_
                    clear n0_ n1_ n2_ n3_ n4_ n5_ n6_ n7_ n8_ n9_ n10_
                    (try clear hb)
                    (try clear hb2)
                    (try clear hk)
                    (try clear hi)
                    refine hK.out _ _ ⟨(blk_cell BK419.out 0).trans rfl, (blk_cell BK419.out 1).trans rfl, (blk_cell BK419.out 2).trans rfl, (blk_cell BK423.out 0).trans rfl, (blk_cell BK423.out 1).trans rfl, (blk_cell BK423.out 2).trans rfl, (blk_cell BK413.out 0).trans rfl, (blk_cell BK413.out 1).trans rfl, (blk_cell BK413.out 2).trans rfl, (blk_cell BK414.out 0).trans rfl, (blk_cell BK414.out 1).trans rfl, (blk_cell BK414.out 2).trans rfl⟩ (fun hHeld => ?_)
                    clear hK K
                    refine norm_ (a' := ?_) ?_ ?_
                    rotate_left
                    · show Act.put _ (some 70) _ = _
                      simp only [Act.put, List.setIfInBounds_toArray, List.set_cons_zero, List.set_cons_succ, i64_w, i32_w]
                      rfl
                    refine pure_ (i := 16) (N := some 71) (v := ?_) (a' := ?_) #[true, true, true, true, true, true, true, true, true, true, true, true, true, true, true, true, true, false, false, false] rfl rfl (any_of HT_.out (by kernel_rfl)) (fun _ _ _ h => h) (Or.inl ⟨by rfl, ?_⟩) ?_ ?_
                    rotate_left
                    · intro w'
                      go_simp
                      with_reducible rfl
                    rotate_left
                    · simp only [Act.put, List.setIfInBounds_toArray, List.set_cons_zero, List.set_cons_succ, i64_w, i32_w]
                      rfl
                    refine pure_ (i := 17) (N := some 72) (v := ?_) (a' := ?_) #[true, true, true, true, true, true, true, true, true, true, true, true, true, true, true, true, true, true, false, false] rfl rfl (any_of HT_.out (by kernel_rfl)) (fun _ _ _ h => h) (Or.inl ⟨by rfl, ?_⟩) ?_ ?_
                    rotate_left
                    · intro w'
                      go_simp
                      with_reducible rfl
                    rotate_left
                    · simp only [Act.put, List.setIfInBounds_toArray, List.set_cons_zero, List.set_cons_succ, i64_w, i32_w]
                      rfl
                    refine pure_ (i := 18) (N := some 73) (v := ?_) (a' := ?_) #[true, true, true, true, true, true, true, true, true, true, true, true, true, true, true, true, true, true, true, false] rfl rfl (any_of HT_.out (by kernel_rfl)) (fun _ _ _ h => h) (Or.inl ⟨by rfl, ?_⟩) ?_ ?_
                    rotate_left
                    · intro w'
                      go_simp
                      with_reducible rfl
                    rotate_left
                    · simp only [Act.put, List.setIfInBounds_toArray, List.set_cons_zero, List.set_cons_succ, i64_w, i32_w]
                      rfl
                    refine pure_ (i := 19) (N := some 6) (v := ?_) (a' := ?_) #[true, true, true, true, true, true, true, true, true, true, true, true, true, true, true, true, true, true, true, true] rfl rfl (any_of HT_.out (by kernel_rfl)) (fun _ _ _ h => h) (Or.inl ⟨by rfl, ?_⟩) ?_ ?_
                    rotate_left
                    · intro w'
                      go_simp
                      with_reducible rfl
                    rotate_left
                    · simp only [Act.put, List.setIfInBounds_toArray, List.set_cons_zero, List.set_cons_succ, i64_w, i32_w]
                      rfl
                    refine done_ (done_of HT_.out (by kernel_rfl)) ?_
                    try go_wp2
                    first | go_ret | refine ⟨_, results_tmp rfl _ _ _, ?_⟩
                    exact ⟨by first | rfl | (simp [errW_none, errW_some] <;> rfl) | (simp [*, errW_none, errW_some] <;> rfl), by repeat (first | (with_reducible first | exact HB.out | apply below_alloc | apply pw_below_drewN | apply below_drew1 | refine below_set ?_ GE413.out | refine below_set ?_ GE414.out | refine below_set ?_ GE419.out | refine below_set ?_ GE423.out) | exact HB.out)⟩
                · rw [if_neg c72] at H
                  exact absurd H (by simp)
  · replace c5 := Bool.eq_false_iff.mpr c5
    subst c5
    have H1 : (none) = some r := by rw [if_neg (show ¬ (false = true) by decide)] at H; exact H
    clear H
    have H := H1
    clear H1
    exact absurd H (by simp)
end Go.Proofs.Ytlkjfjlmjgkheaa.G
