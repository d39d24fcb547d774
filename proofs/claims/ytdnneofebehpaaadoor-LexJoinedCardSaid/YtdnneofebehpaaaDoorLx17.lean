import Derived.Test.YtdnneofebehpaaaDoorLx0
import Derived.Test.YtdnneofebehpaaaDoorLx5
import Derived.Test.YtdnneofebehpaaaDoorLx6
import Derived.Test.YtdnneofebehpaaaDoorLx10
namespace Go.Proofs.YtdnneofebehpaaaDoor.L
open Go.RowKit Go.Proofs.YtdnneofebehpaaaDoorW.PrintWords Go.Proofs.YtdnneofebehpaaaDoorW.PrintLast Go.Proofs.YtdnneofebehpaaaDoorW.PrintMore
attribute [local go_sem] max2_int min2_int max_two min_two max_three min_three max_four min_four
set_option linter.unusedVariables false
set_option linter.unusedSimpArgs false
mutual
def dragomanlaw14_LexJoined.l0 : Nat → List (List ByteArray) → Bool → ByteArray → List (List ByteArray) → Int → Int → Option (Bool)
  | 0, _, _, _, _, _, _ => none
  | k + 1, x0, x1, x5, x16, x17, x18 => if x18 < x17 then (if 0 ≤ x18 then (if x18 < (x16.length : Int) then (if ((rd_L1 x16 x18).length : Int) = 0 then (dragomanlaw14_LexJoined.j1 k x0 x1 x5 (rd_L1 x16 x18) x16 x17 x18 true) else (if ((rd_L1 x16 x18).length : Int) > 100 then (dragomanlaw14_LexJoined.j1 k x0 x1 x5 (rd_L1 x16 x18) x16 x17 x18 true) else (dragomanlaw14_LexJoined.j1 k x0 x1 x5 (rd_L1 x16 x18) x16 x17 x18 (decide ((x5.size : Int) > 10000))))) else (none)) else (none)) else ((lex_Lines.f k x5).bind fun bt250 => (if bt250.2 = 0 then (dragomanlaw14_LexJoined.j5 k x0 bt250.1 ((bt250.1.length : Int) != (x0.length : Int))) else (dragomanlaw14_LexJoined.j5 k x0 bt250.1 true)))
def dragomanlaw14_LexJoined.j1 : Nat → List (List ByteArray) → Bool → ByteArray → List ByteArray → List (List ByteArray) → Int → Int → Bool → Option (Bool)
  | 0, _, _, _, _, _, _, _, _ => none
  | k + 1, x0, x1, x5, x7, x16, x17, x18, x34 => if x34 = true then (some true) else (dragomanlaw14_LexJoined.l1 k x0 x1 x5 x7 x16 x17 x18 x7 (x7.length : Int) 0)
def dragomanlaw14_LexJoined.l1 : Nat → List (List ByteArray) → Bool → ByteArray → List ByteArray → List (List ByteArray) → Int → Int → List ByteArray → Int → Int → Option (Bool)
  | 0, _, _, _, _, _, _, _, _, _, _ => none
  | k + 1, x0, x1, x5, x7, x16, x17, x18, x35, x36, x37 => if x37 < x36 then (if 0 ≤ x37 then (if x37 < (x35.length : Int) then (if ((rdOf ByteArray.empty x35 x37).size : Int) = 0 then (dragomanlaw14_LexJoined.j3 k x0 x1 x5 x7 (rdOf ByteArray.empty x35 x37) x16 x17 x18 x35 x36 x37 true) else (if ((rdOf ByteArray.empty x35 x37).size : Int) > 100 then (dragomanlaw14_LexJoined.j3 k x0 x1 x5 x7 (rdOf ByteArray.empty x35 x37) x16 x17 x18 x35 x36 x37 true) else (if x37 = 0 then (if 0 < ((rdOf ByteArray.empty x35 x37).size : Int) then (dragomanlaw14_LexJoined.j3 k x0 x1 x5 x7 (rdOf ByteArray.empty x35 x37) x16 x17 x18 x35 x36 x37 ((bt (rdOf ByteArray.empty x35 x37) 0) == 33)) else (none)) else (dragomanlaw14_LexJoined.j3 k x0 x1 x5 x7 (rdOf ByteArray.empty x35 x37) x16 x17 x18 x35 x36 x37 false)))) else (none)) else (none)) else (if x5.size + 1 ≤ 9223372036854775807 then (if x1 = true then (if 0 < (x7.length : Int) then (if 3 + (rdOf ByteArray.empty x7 0).size ≤ 9223372036854775807 then (if ((⟨#[32, 10, 33]⟩ : ByteArray) ++ (rdOf ByteArray.empty x7 0)).size + 1 ≤ 9223372036854775807 then (if (x5 ++ (⟨#[10]⟩ : ByteArray)).size + (((⟨#[32, 10, 33]⟩ : ByteArray) ++ (rdOf ByteArray.empty x7 0)) ++ (⟨#[10]⟩ : ByteArray)).size ≤ 9223372036854775807 then (dragomanlaw14_LexJoined.l0 k x0 x1 ((x5 ++ (⟨#[10]⟩ : ByteArray)) ++ (((⟨#[32, 10, 33]⟩ : ByteArray) ++ (rdOf ByteArray.empty x7 0)) ++ (⟨#[10]⟩ : ByteArray))) x16 x17 (wrap64 (x18 + 1))) else (none)) else (none)) else (none)) else (none)) else (dragomanlaw14_LexJoined.l0 k x0 x1 (x5 ++ (⟨#[10]⟩ : ByteArray)) x16 x17 (wrap64 (x18 + 1)))) else (none))
def dragomanlaw14_LexJoined.j3 : Nat → List (List ByteArray) → Bool → ByteArray → List ByteArray → ByteArray → List (List ByteArray) → Int → Int → List ByteArray → Int → Int → Bool → Option (Bool)
  | 0, _, _, _, _, _, _, _, _, _, _, _, _ => none
  | k + 1, x0, x1, x5, x7, x9, x16, x17, x18, x35, x36, x37, x58 => if x58 = true then (some true) else (dragomanlaw14_LexJoined.l2 k x0 x1 x5 x7 x9 x16 x17 x18 x35 x36 x37 (x9.size : Int) 0)
def dragomanlaw14_LexJoined.l2 : Nat → List (List ByteArray) → Bool → ByteArray → List ByteArray → ByteArray → List (List ByteArray) → Int → Int → List ByteArray → Int → Int → Int → Int → Option (Bool)
  | 0, _, _, _, _, _, _, _, _, _, _, _, _, _ => none
  | k + 1, x0, x1, x5, x7, x9, x16, x17, x18, x35, x36, x37, x60, x61 => if x61 < x60 then (if 0 ≤ x61 then (if x61 < (x9.size : Int) then (if (bt x9 x61) ≤ 32 then (some true) else (if (bt x9 x61) > 126 then (some true) else (dragomanlaw14_LexJoined.l2 k x0 x1 x5 x7 x9 x16 x17 x18 x35 x36 x37 x60 (wrap64 (x61 + 1))))) else (none)) else (none)) else (if x1 = true then (if x5.size + 2 ≤ 9223372036854775807 then (if x9.size + 1 ≤ 9223372036854775807 then (if (x5 ++ (⟨#[9, 32]⟩ : ByteArray)).size + (x9 ++ (⟨#[32]⟩ : ByteArray)).size ≤ 9223372036854775807 then (dragomanlaw14_LexJoined.l1 k x0 x1 ((x5 ++ (⟨#[9, 32]⟩ : ByteArray)) ++ (x9 ++ (⟨#[32]⟩ : ByteArray))) x7 x16 x17 x18 x35 x36 (wrap64 (x37 + 1))) else (none)) else (none)) else (none)) else (if x9.size + 1 ≤ 9223372036854775807 then (if x5.size + (x9 ++ (⟨#[32]⟩ : ByteArray)).size ≤ 9223372036854775807 then (dragomanlaw14_LexJoined.l1 k x0 x1 (x5 ++ (x9 ++ (⟨#[32]⟩ : ByteArray))) x7 x16 x17 x18 x35 x36 (wrap64 (x37 + 1))) else (none)) else (none)))
def dragomanlaw14_LexJoined.j5 : Nat → List (List ByteArray) → List (List ByteArray) → Bool → Option (Bool)
  | 0, _, _, _ => none
  | k + 1, x0, x11, x107 => if x107 = true then (none) else (dragomanlaw14_LexJoined.l3 k x0 x11 (x0.length : Int) 0)
def dragomanlaw14_LexJoined.l3 : Nat → List (List ByteArray) → List (List ByteArray) → Int → Int → Option (Bool)
  | 0, _, _, _, _ => none
  | k + 1, x0, x11, x109, x110 => if x110 < x109 then (if 0 ≤ x110 then (if x110 < (x11.length : Int) then (if x110 < (x0.length : Int) then ((dragomanref14_Strings.f k (rd_L1 x11 x110) (rd_L1 x0 x110)).bind fun t256 => (if t256 = true then (dragomanlaw14_LexJoined.l3 k x0 x11 x109 (wrap64 (x110 + 1))) else (none))) else (none)) else (none)) else (none)) else (some true)
end
def dragomanlaw14_LexJoined.f (k : Nat) (l0 : List (List ByteArray)) (a1 : Bool) : Option (Bool) := (dragomanlaw14_alive.f k).bind fun t246 => (if t246 = true then (dragomanlaw14_LexJoined.l0 k l0 a1 (⟨#[]⟩ : ByteArray) l0 (l0.length : Int) 0) else (none))
theorem dragomanlaw14_LexJoined.mono_l : ∀ k, (∀ y0 y1 y2 y3 y4 y5, LeO (dragomanlaw14_LexJoined.l0 k y0 y1 y2 y3 y4 y5) (dragomanlaw14_LexJoined.l0 (k + 1) y0 y1 y2 y3 y4 y5)) ∧ (∀ y0 y1 y2 y3 y4 y5 y6 y7, LeO (dragomanlaw14_LexJoined.j1 k y0 y1 y2 y3 y4 y5 y6 y7) (dragomanlaw14_LexJoined.j1 (k + 1) y0 y1 y2 y3 y4 y5 y6 y7)) ∧ (∀ y0 y1 y2 y3 y4 y5 y6 y7 y8 y9, LeO (dragomanlaw14_LexJoined.l1 k y0 y1 y2 y3 y4 y5 y6 y7 y8 y9) (dragomanlaw14_LexJoined.l1 (k + 1) y0 y1 y2 y3 y4 y5 y6 y7 y8 y9)) ∧ (∀ y0 y1 y2 y3 y4 y5 y6 y7 y8 y9 y10 y11, LeO (dragomanlaw14_LexJoined.j3 k y0 y1 y2 y3 y4 y5 y6 y7 y8 y9 y10 y11) (dragomanlaw14_LexJoined.j3 (k + 1) y0 y1 y2 y3 y4 y5 y6 y7 y8 y9 y10 y11)) ∧ (∀ y0 y1 y2 y3 y4 y5 y6 y7 y8 y9 y10 y11 y12, LeO (dragomanlaw14_LexJoined.l2 k y0 y1 y2 y3 y4 y5 y6 y7 y8 y9 y10 y11 y12) (dragomanlaw14_LexJoined.l2 (k + 1) y0 y1 y2 y3 y4 y5 y6 y7 y8 y9 y10 y11 y12)) ∧ (∀ y0 y1 y2, LeO (dragomanlaw14_LexJoined.j5 k y0 y1 y2) (dragomanlaw14_LexJoined.j5 (k + 1) y0 y1 y2)) ∧ (∀ y0 y1 y2 y3, LeO (dragomanlaw14_LexJoined.l3 k y0 y1 y2 y3) (dragomanlaw14_LexJoined.l3 (k + 1) y0 y1 y2 y3))
  | 0 => ⟨fun _ _ _ _ _ _ r h => by simp [dragomanlaw14_LexJoined.l0] at h, fun _ _ _ _ _ _ _ _ r h => by simp [dragomanlaw14_LexJoined.j1] at h, fun _ _ _ _ _ _ _ _ _ _ r h => by simp [dragomanlaw14_LexJoined.l1] at h, fun _ _ _ _ _ _ _ _ _ _ _ _ r h => by simp [dragomanlaw14_LexJoined.j3] at h, fun _ _ _ _ _ _ _ _ _ _ _ _ _ r h => by simp [dragomanlaw14_LexJoined.l2] at h, fun _ _ _ r h => by simp [dragomanlaw14_LexJoined.j5] at h, fun _ _ _ _ r h => by simp [dragomanlaw14_LexJoined.l3] at h⟩
  | k + 1 => by
    obtain ⟨ih0, ih1, ih2, ih3, ih4, ih5, ih6⟩ := dragomanlaw14_LexJoined.mono_l k
    refine ⟨?_, ?_, ?_, ?_, ?_, ?_, ?_⟩
    · intro y0 y1 y2 y3 y4 y5
      unfold dragomanlaw14_LexJoined.l0
      repeat' first
      | (with_reducible exact ih0 _ _ _ _ _ _)
      | (with_reducible exact ih1 _ _ _ _ _ _ _ _)
      | (with_reducible exact ih2 _ _ _ _ _ _ _ _ _ _)
      | (with_reducible exact ih3 _ _ _ _ _ _ _ _ _ _ _ _)
      | (with_reducible exact ih4 _ _ _ _ _ _ _ _ _ _ _ _ _)
      | (with_reducible exact ih5 _ _ _)
      | (with_reducible exact ih6 _ _ _ _)
      | (with_reducible exact dragomanlaw14_alive.mono _)
      | (with_reducible exact dragomanref14_Strings.mono _ _ _)
      | (with_reducible exact lex_Lines.mono _ _)
      | (with_reducible exact LeO.refl _)
      | (with_reducible exact LeO.none _)
      | (with_reducible refine LeO.ite ?_ ?_)
      | (with_reducible refine LeO.bind ?_ (fun _ => ?_))
      | exact ih0 _ _ _ _ _ _
      | exact ih1 _ _ _ _ _ _ _ _
      | exact ih2 _ _ _ _ _ _ _ _ _ _
      | exact ih3 _ _ _ _ _ _ _ _ _ _ _ _
      | exact ih4 _ _ _ _ _ _ _ _ _ _ _ _ _
      | exact ih5 _ _ _
      | exact ih6 _ _ _ _
      | exact dragomanlaw14_alive.mono _
      | exact dragomanref14_Strings.mono _ _ _
      | exact lex_Lines.mono _ _
      | exact LeO.none _
      | refine LeO.ite ?_ ?_
      | refine LeO.bind ?_ (fun _ => ?_)
    · intro y0 y1 y2 y3 y4 y5 y6 y7
      unfold dragomanlaw14_LexJoined.j1
      repeat' first
      | (with_reducible exact ih0 _ _ _ _ _ _)
      | (with_reducible exact ih1 _ _ _ _ _ _ _ _)
      | (with_reducible exact ih2 _ _ _ _ _ _ _ _ _ _)
      | (with_reducible exact ih3 _ _ _ _ _ _ _ _ _ _ _ _)
      | (with_reducible exact ih4 _ _ _ _ _ _ _ _ _ _ _ _ _)
      | (with_reducible exact ih5 _ _ _)
      | (with_reducible exact ih6 _ _ _ _)
      | (with_reducible exact dragomanlaw14_alive.mono _)
      | (with_reducible exact dragomanref14_Strings.mono _ _ _)
      | (with_reducible exact lex_Lines.mono _ _)
      | (with_reducible exact LeO.refl _)
      | (with_reducible exact LeO.none _)
      | (with_reducible refine LeO.ite ?_ ?_)
      | (with_reducible refine LeO.bind ?_ (fun _ => ?_))
      | exact ih0 _ _ _ _ _ _
      | exact ih1 _ _ _ _ _ _ _ _
      | exact ih2 _ _ _ _ _ _ _ _ _ _
      | exact ih3 _ _ _ _ _ _ _ _ _ _ _ _
      | exact ih4 _ _ _ _ _ _ _ _ _ _ _ _ _
      | exact ih5 _ _ _
      | exact ih6 _ _ _ _
      | exact dragomanlaw14_alive.mono _
      | exact dragomanref14_Strings.mono _ _ _
      | exact lex_Lines.mono _ _
      | exact LeO.none _
      | refine LeO.ite ?_ ?_
      | refine LeO.bind ?_ (fun _ => ?_)
    · intro y0 y1 y2 y3 y4 y5 y6 y7 y8 y9
      unfold dragomanlaw14_LexJoined.l1
      repeat' first
      | (with_reducible exact ih0 _ _ _ _ _ _)
      | (with_reducible exact ih1 _ _ _ _ _ _ _ _)
      | (with_reducible exact ih2 _ _ _ _ _ _ _ _ _ _)
      | (with_reducible exact ih3 _ _ _ _ _ _ _ _ _ _ _ _)
      | (with_reducible exact ih4 _ _ _ _ _ _ _ _ _ _ _ _ _)
      | (with_reducible exact ih5 _ _ _)
      | (with_reducible exact ih6 _ _ _ _)
      | (with_reducible exact dragomanlaw14_alive.mono _)
      | (with_reducible exact dragomanref14_Strings.mono _ _ _)
      | (with_reducible exact lex_Lines.mono _ _)
      | (with_reducible exact LeO.refl _)
      | (with_reducible exact LeO.none _)
      | (with_reducible refine LeO.ite ?_ ?_)
      | (with_reducible refine LeO.bind ?_ (fun _ => ?_))
      | exact ih0 _ _ _ _ _ _
      | exact ih1 _ _ _ _ _ _ _ _
      | exact ih2 _ _ _ _ _ _ _ _ _ _
      | exact ih3 _ _ _ _ _ _ _ _ _ _ _ _
      | exact ih4 _ _ _ _ _ _ _ _ _ _ _ _ _
      | exact ih5 _ _ _
      | exact ih6 _ _ _ _
      | exact dragomanlaw14_alive.mono _
      | exact dragomanref14_Strings.mono _ _ _
      | exact lex_Lines.mono _ _
      | exact LeO.none _
      | refine LeO.ite ?_ ?_
      | refine LeO.bind ?_ (fun _ => ?_)
    · intro y0 y1 y2 y3 y4 y5 y6 y7 y8 y9 y10 y11
      unfold dragomanlaw14_LexJoined.j3
      repeat' first
      | (with_reducible exact ih0 _ _ _ _ _ _)
      | (with_reducible exact ih1 _ _ _ _ _ _ _ _)
      | (with_reducible exact ih2 _ _ _ _ _ _ _ _ _ _)
      | (with_reducible exact ih3 _ _ _ _ _ _ _ _ _ _ _ _)
      | (with_reducible exact ih4 _ _ _ _ _ _ _ _ _ _ _ _ _)
      | (with_reducible exact ih5 _ _ _)
      | (with_reducible exact ih6 _ _ _ _)
      | (with_reducible exact dragomanlaw14_alive.mono _)
      | (with_reducible exact dragomanref14_Strings.mono _ _ _)
      | (with_reducible exact lex_Lines.mono _ _)
      | (with_reducible exact LeO.refl _)
      | (with_reducible exact LeO.none _)
      | (with_reducible refine LeO.ite ?_ ?_)
      | (with_reducible refine LeO.bind ?_ (fun _ => ?_))
      | exact ih0 _ _ _ _ _ _
      | exact ih1 _ _ _ _ _ _ _ _
      | exact ih2 _ _ _ _ _ _ _ _ _ _
      | exact ih3 _ _ _ _ _ _ _ _ _ _ _ _
      | exact ih4 _ _ _ _ _ _ _ _ _ _ _ _ _
      | exact ih5 _ _ _
      | exact ih6 _ _ _ _
      | exact dragomanlaw14_alive.mono _
      | exact dragomanref14_Strings.mono _ _ _
      | exact lex_Lines.mono _ _
      | exact LeO.none _
      | refine LeO.ite ?_ ?_
      | refine LeO.bind ?_ (fun _ => ?_)
    · intro y0 y1 y2 y3 y4 y5 y6 y7 y8 y9 y10 y11 y12
      unfold dragomanlaw14_LexJoined.l2
      repeat' first
      | (with_reducible exact ih0 _ _ _ _ _ _)
      | (with_reducible exact ih1 _ _ _ _ _ _ _ _)
      | (with_reducible exact ih2 _ _ _ _ _ _ _ _ _ _)
      | (with_reducible exact ih3 _ _ _ _ _ _ _ _ _ _ _ _)
      | (with_reducible exact ih4 _ _ _ _ _ _ _ _ _ _ _ _ _)
      | (with_reducible exact ih5 _ _ _)
      | (with_reducible exact ih6 _ _ _ _)
      | (with_reducible exact dragomanlaw14_alive.mono _)
      | (with_reducible exact dragomanref14_Strings.mono _ _ _)
      | (with_reducible exact lex_Lines.mono _ _)
      | (with_reducible exact LeO.refl _)
      | (with_reducible exact LeO.none _)
      | (with_reducible refine LeO.ite ?_ ?_)
      | (with_reducible refine LeO.bind ?_ (fun _ => ?_))
      | exact ih0 _ _ _ _ _ _
      | exact ih1 _ _ _ _ _ _ _ _
      | exact ih2 _ _ _ _ _ _ _ _ _ _
      | exact ih3 _ _ _ _ _ _ _ _ _ _ _ _
      | exact ih4 _ _ _ _ _ _ _ _ _ _ _ _ _
      | exact ih5 _ _ _
      | exact ih6 _ _ _ _
      | exact dragomanlaw14_alive.mono _
      | exact dragomanref14_Strings.mono _ _ _
      | exact lex_Lines.mono _ _
      | exact LeO.none _
      | refine LeO.ite ?_ ?_
      | refine LeO.bind ?_ (fun _ => ?_)
    · intro y0 y1 y2
      unfold dragomanlaw14_LexJoined.j5
      repeat' first
      | (with_reducible exact ih0 _ _ _ _ _ _)
      | (with_reducible exact ih1 _ _ _ _ _ _ _ _)
      | (with_reducible exact ih2 _ _ _ _ _ _ _ _ _ _)
      | (with_reducible exact ih3 _ _ _ _ _ _ _ _ _ _ _ _)
      | (with_reducible exact ih4 _ _ _ _ _ _ _ _ _ _ _ _ _)
      | (with_reducible exact ih5 _ _ _)
      | (with_reducible exact ih6 _ _ _ _)
      | (with_reducible exact dragomanlaw14_alive.mono _)
      | (with_reducible exact dragomanref14_Strings.mono _ _ _)
      | (with_reducible exact lex_Lines.mono _ _)
      | (with_reducible exact LeO.refl _)
      | (with_reducible exact LeO.none _)
      | (with_reducible refine LeO.ite ?_ ?_)
      | (with_reducible refine LeO.bind ?_ (fun _ => ?_))
      | exact ih0 _ _ _ _ _ _
      | exact ih1 _ _ _ _ _ _ _ _
      | exact ih2 _ _ _ _ _ _ _ _ _ _
      | exact ih3 _ _ _ _ _ _ _ _ _ _ _ _
      | exact ih4 _ _ _ _ _ _ _ _ _ _ _ _ _
      | exact ih5 _ _ _
      | exact ih6 _ _ _ _
      | exact dragomanlaw14_alive.mono _
      | exact dragomanref14_Strings.mono _ _ _
      | exact lex_Lines.mono _ _
      | exact LeO.none _
      | refine LeO.ite ?_ ?_
      | refine LeO.bind ?_ (fun _ => ?_)
    · intro y0 y1 y2 y3
      unfold dragomanlaw14_LexJoined.l3
      repeat' first
      | (with_reducible exact ih0 _ _ _ _ _ _)
      | (with_reducible exact ih1 _ _ _ _ _ _ _ _)
      | (with_reducible exact ih2 _ _ _ _ _ _ _ _ _ _)
      | (with_reducible exact ih3 _ _ _ _ _ _ _ _ _ _ _ _)
      | (with_reducible exact ih4 _ _ _ _ _ _ _ _ _ _ _ _ _)
      | (with_reducible exact ih5 _ _ _)
      | (with_reducible exact ih6 _ _ _ _)
      | (with_reducible exact dragomanlaw14_alive.mono _)
      | (with_reducible exact dragomanref14_Strings.mono _ _ _)
      | (with_reducible exact lex_Lines.mono _ _)
      | (with_reducible exact LeO.refl _)
      | (with_reducible exact LeO.none _)
      | (with_reducible refine LeO.ite ?_ ?_)
      | (with_reducible refine LeO.bind ?_ (fun _ => ?_))
      | exact ih0 _ _ _ _ _ _
      | exact ih1 _ _ _ _ _ _ _ _
      | exact ih2 _ _ _ _ _ _ _ _ _ _
      | exact ih3 _ _ _ _ _ _ _ _ _ _ _ _
      | exact ih4 _ _ _ _ _ _ _ _ _ _ _ _ _
      | exact ih5 _ _ _
      | exact ih6 _ _ _ _
      | exact dragomanlaw14_alive.mono _
      | exact dragomanref14_Strings.mono _ _ _
      | exact lex_Lines.mono _ _
      | exact LeO.none _
      | refine LeO.ite ?_ ?_
      | refine LeO.bind ?_ (fun _ => ?_)
theorem dragomanlaw14_LexJoined.mono : ∀ a0 a1 k, LeO (dragomanlaw14_LexJoined.f k a0 a1) (dragomanlaw14_LexJoined.f (k + 1) a0 a1) := by
  intro a0 a1 k
  obtain ⟨ih0, ih1, ih2, ih3, ih4, ih5, ih6⟩ := dragomanlaw14_LexJoined.mono_l k
  unfold dragomanlaw14_LexJoined.f
  repeat' first
      | (with_reducible exact ih0 _ _ _ _ _ _)
      | (with_reducible exact ih1 _ _ _ _ _ _ _ _)
      | (with_reducible exact ih2 _ _ _ _ _ _ _ _ _ _)
      | (with_reducible exact ih3 _ _ _ _ _ _ _ _ _ _ _ _)
      | (with_reducible exact ih4 _ _ _ _ _ _ _ _ _ _ _ _ _)
      | (with_reducible exact ih5 _ _ _)
      | (with_reducible exact ih6 _ _ _ _)
      | (with_reducible exact dragomanlaw14_alive.mono _)
      | (with_reducible exact dragomanref14_Strings.mono _ _ _)
      | (with_reducible exact lex_Lines.mono _ _)
      | (with_reducible exact LeO.refl _)
      | (with_reducible exact LeO.none _)
      | (with_reducible refine LeO.ite ?_ ?_)
      | (with_reducible refine LeO.bind ?_ (fun _ => ?_))
      | exact ih0 _ _ _ _ _ _
      | exact ih1 _ _ _ _ _ _ _ _
      | exact ih2 _ _ _ _ _ _ _ _ _ _
      | exact ih3 _ _ _ _ _ _ _ _ _ _ _ _
      | exact ih4 _ _ _ _ _ _ _ _ _ _ _ _ _
      | exact ih5 _ _ _
      | exact ih6 _ _ _ _
      | exact dragomanlaw14_alive.mono _
      | exact dragomanref14_Strings.mono _ _ _
      | exact lex_Lines.mono _ _
      | exact LeO.none _
      | refine LeO.ite ?_ ?_
      | refine LeO.bind ?_ (fun _ => ?_)
set_option maxHeartbeats 8000000 in
set_option maxRecDepth 100000 in
theorem dragomanlaw14_LexJoined.calls (k : Nat) (A0 : Option Addr) (c0 : Nat) (l0 : List (List ByteArray)) (a1 : Bool) (r : Bool) (w : World) (hr0 : Kd.C (Kd.slice 9 Kd.string) w A0 l0.length l0) (hc0 : l0.length ≤ c0) (hG : GL w) (h : dragomanlaw14_LexJoined.f k l0 a1 = some r) :
    Calls Tryd.prog 5 #[.slice A0 l0.length c0, .bool a1] w fun e w' => e = .returned (.bool r) ∧ Below w.heap.size w w' := by
  have HR0 := Aside0.mk hr0
  have HC0 := Aside0.mk hc0
  clear hr0 hc0
  have HB := Aside0.mk (Below.refl w.heap.size w)
  have H : ((dragomanlaw14_alive.f k).bind fun t246 => (if t246 = true then (dragomanlaw14_LexJoined.l0 k l0 a1 (⟨#[]⟩ : ByteArray) l0 (l0.length : Int) 0) else (none))) = some r := h
  clear h
  replace H := Option.bind_eq_some_iff.mp H
  obtain ⟨t246, A30, H⟩ := H
  replace H : (if t246 = true then (dragomanlaw14_LexJoined.l0 k l0 a1 (⟨#[]⟩ : ByteArray) l0 (l0.length : Int) 0) else (none)) = some r := H
  have A3 := Aside0.mk A30
  clear A30
  by_cases c4 : t246 = true
  · subst c4
    have H1 : (dragomanlaw14_LexJoined.l0 k l0 a1 (⟨#[]⟩ : ByteArray) l0 (l0.length : Int) 0) = some r := by rw [if_pos rfl] at H; exact H
    clear H
    have H := H1
    clear H1
    have H' := Aside0.mk H
    clear H
    go_enter Tryd.func5, Tryd.ntmps5
    go_wp2_with (first | (go_at_call 8; (with_reducible refine (dragomanlaw14_alive.calls k  true _ ?side1 A3.out).mono ?_); (case side1 => exact GL_below hG (by repeat (first | (with_reducible first | exact HB.out | apply below_alloc | apply pw_below_drewN | apply below_drew1) | exact HB.out))); rintro e w5 ⟨rfl, hb⟩; have n0_ := Aside0.mk (below_step (by repeat (first | (with_reducible first | exact HB.out | apply below_alloc | apply pw_below_drewN | apply below_drew1) | exact HB.out)) hb); clear HB; have HB := n0_; clear n0_; (try clear hb); (try clear hb2); (try clear hk); (try clear hi)))
    repeat (go_quiet (first | (go_at_call 8; (with_reducible refine (dragomanlaw14_alive.calls k  true _ ?side1 A3.out).mono ?_); (case side1 => exact GL_below hG (by repeat (first | (with_reducible first | exact HB.out | apply below_alloc | apply pw_below_drewN | apply below_drew1) | exact HB.out))); rintro e w5 ⟨rfl, hb⟩; have n0_ := Aside0.mk (below_step (by repeat (first | (with_reducible first | exact HB.out | apply below_alloc | apply pw_below_drewN | apply below_drew1) | exact HB.out)) hb); clear HB; have HB := n0_; clear n0_; (try clear hb); (try clear hb2); (try clear hk); (try clear hi))); try go_wp2_with (first | (go_at_call 8; (with_reducible refine (dragomanlaw14_alive.calls k  true _ ?side1 A3.out).mono ?_); (case side1 => exact GL_below hG (by repeat (first | (with_reducible first | exact HB.out | apply below_alloc | apply pw_below_drewN | apply below_drew1) | exact HB.out))); rintro e w5 ⟨rfl, hb⟩; have n0_ := Aside0.mk (below_step (by repeat (first | (with_reducible first | exact HB.out | apply below_alloc | apply pw_below_drewN | apply below_drew1) | exact HB.out)) hb); clear HB; have HB := n0_; clear n0_; (try clear hb); (try clear hb2); (try clear hk); (try clear hi))))
    go_loopg [5, 18] k (fun kq v5 v18 w' => ∃ (x5_1 : ByteArray) (x18_1 : Int), v5 = .string x5_1 ∧ v18 = .int .i64 x18_1 ∧ Aside0 (dragomanlaw14_LexJoined.l0 kq l0 a1 x5_1 l0 (l0.length : Int) x18_1 = some r) ∧ Aside0 (kq ≤ k) ∧ Aside0 (Below w.heap.size w w'))
    case atStart => exact ⟨((⟨#[]⟩ : ByteArray)), (0), (by first | rfl | (simp; done) | (simp [*]; done)), (by first | rfl | (simp; done) | (simp [*]; done)), H', ⟨Nat.le_refl _⟩, ⟨by repeat (first | (with_reducible first | exact HB.out | apply below_alloc | apply pw_below_drewN | apply below_drew1) | exact HB.out)⟩⟩
    case round =>
      clear H'
      try clear p2
      try clear c4
      try clear c5
      obtain ⟨x5_1, x18_1, rfl, rfl, HA, HK1, HB⟩ := hrel
      cases gk with
      | zero => exact absurd HA.out (by simp [dragomanlaw14_LexJoined.l0])
      | succ k1 =>
        have H := HA.out
        clear HA
        simp only [dragomanlaw14_LexJoined.l0] at H
        by_cases c6 : x18_1 < (l0.length : Int)
        · rw [if_pos c6] at H
          have c6b0 : decide (x18_1 < (l0.length : Int)) = true := decide_eq_true c6
          clear c6
          by_cases c7 : 0 ≤ x18_1
          · rw [if_pos c7] at H
            have c7b0 : decide (0 ≤ x18_1) = true := decide_eq_true c7
            clear c7
            by_cases c8 : x18_1 < (l0.length : Int)
            · rw [if_pos c8] at H
              have c8b0 : decide (x18_1 < (l0.length : Int)) = true := decide_eq_true c8
              clear c8
              have HC9 := Aside0.mk H
              clear H
              have p247 : 0 ≤ (x18_1 : Int) := of_decide_eq_true (by first | (with_reducible assumption) | assumption)
              have q247 : x18_1 < (l0.length : Int) := of_decide_eq_true (by first | (with_reducible assumption) | assumption)
              obtain ⟨ad247, A247_0, c247_0, e247, hx247_0, hl247_0, hi247_0⟩ := at_L1 HR0.out x18_1 p247 q247
              cases e247
              replace hx247_0 := (HB.out.cell (World.block_lt_of_cell? w _ hx247_0)).trans hx247_0
              have HR247_0 := Aside0.mk hi247_0
              have HC247_0 := Aside0.mk hl247_0
              clear hi247_0 hl247_0
              replace p247 := eq_true p247
              replace q247 := eq_true q247
              go_upto_region 7 with (fail)
              repeat (go_quiet (fail); go_upto_region 7 with (fail))
              go_cut [34] (fun v34 wc => ∃ (kq : Nat) (x34_8 : Bool), v34 = .bool x34_8 ∧ Aside0 (dragomanlaw14_LexJoined.j1 kq l0 a1 x5_1 (rd_L1 l0 x18_1) l0 (l0.length : Int) x18_1 x34_8 = some r) ∧ Aside0 (kq ≤ k1) ∧ Aside0 (Below w.heap.size w wc))
              case first =>
                have H := HC9.out
                clear HC9
                by_cases c10 : ((rd_L1 l0 x18_1).length : Int) = 0
                · rw [if_pos c10] at H
                  have c10b0 : (((rd_L1 l0 x18_1).length : Int) == 0) = true := beq_iff_eq.mpr c10
                  have c10b1 : (((rd_L1 l0 x18_1).length : Int) != 0) = false := bne_eq_false_iff_eq.mpr c10
                  clear c10
                  (first | rw [c10b0] | (simp only [i64_w, i32_w]; rw [c10b0]) | rw [c10b1] | skip)
                  have H' := Aside0.mk H
                  clear H
                  go_wp2
                  repeat (go_quiet (fail); try go_wp2)
                  go_meet
                  case rel => exact ⟨_, (true), (by first | rfl | (simp; done) | (simp [*]; done)), H', ⟨by have := HK1.out; first | omega | exact Nat.le_refl _⟩, ⟨by repeat (first | (with_reducible first | exact HB.out | apply below_alloc | apply pw_below_drewN | apply below_drew1) | exact HB.out)⟩⟩
                · rw [if_neg c10] at H
                  have c10b0 : (((rd_L1 l0 x18_1).length : Int) == 0) = false := beq_eq_false_iff_ne.mpr c10
                  have c10b1 : (((rd_L1 l0 x18_1).length : Int) != 0) = true := bne_iff_ne.mpr c10
                  have c10b2 : ¬ ((rd_L1 l0 x18_1) = []) := fun h_ => c10 (by rw [h_]; rfl)
                  (first | rw [c10b0] | (simp only [i64_w, i32_w]; rw [c10b0]) | rw [c10b1] | skip)
                  by_cases c11 : ((rd_L1 l0 x18_1).length : Int) > 100
                  · rw [if_pos c11] at H
                    have c11b0 : decide (100 < ((rd_L1 l0 x18_1).length : Int)) = true := decide_eq_true c11
                    have c11b1 : decide (100 < (rd_L1 l0 x18_1).length) = true := decide_eq_true (by omega)
                    clear c11
                    have H' := Aside0.mk H
                    clear H
                    go_wp2
                    repeat (go_quiet (fail); try go_wp2)
                    go_meet
                    case rel => exact ⟨_, (true), (by first | rfl | (simp; done) | (simp [*]; done)), H', ⟨by have := HK1.out; first | omega | exact Nat.le_refl _⟩, ⟨by repeat (first | (with_reducible first | exact HB.out | apply below_alloc | apply pw_below_drewN | apply below_drew1) | exact HB.out)⟩⟩
                  · rw [if_neg c11] at H
                    have c11b0 : decide (100 < ((rd_L1 l0 x18_1).length : Int)) = false := decide_eq_false c11
                    have c11b1 : decide (100 < (rd_L1 l0 x18_1).length) = false := decide_eq_false (by omega)
                    clear c11
                    have H' := Aside0.mk H
                    clear H
                    go_wp2
                    repeat (go_quiet (fail); try go_wp2)
                    go_meet
                    case rel => exact ⟨_, (decide ((x5_1.size : Int) > 10000)), (by first | rfl | (simp; done) | (simp [*]; done)), H', ⟨by have := HK1.out; first | omega | exact Nat.le_refl _⟩, ⟨by repeat (first | (with_reducible first | exact HB.out | apply below_alloc | apply pw_below_drewN | apply below_drew1) | exact HB.out)⟩⟩
              case rest =>
                clear HC9
                try clear c1
                try clear c2
                try clear p2
                try clear q2
                try clear hx2
                try clear c4
                try clear c5
                try clear c6
                try clear c6b0
                try clear c7
                try clear c7b0
                try clear c8
                try clear c8b0
                try clear c10
                try clear c10b0
                try clear c10b1
                try clear c10b2
                try clear c11
                try clear c11b0
                try clear c11b1
                try clear hx247_0
                try clear p2
                try clear p247
                try clear q247
                obtain ⟨kq, x34_8, rfl, HA, HJ8, HB⟩ := hcut
                cases kq with
                | zero => exact absurd HA.out (by simp [dragomanlaw14_LexJoined.j1])
                | succ kj8 =>
                  have H := HA.out
                  clear HA
                  simp only [dragomanlaw14_LexJoined.j1] at H
                  by_cases c12 : x34_8 = true
                  · subst c12
                    have H1 : (some true) = some r := by rw [if_pos rfl] at H; exact H
                    clear H
                    have H := H1
                    clear H1
                    obtain rfl := Option.some.inj H
                    go_wp2
                    repeat (go_quiet (fail); try go_wp2)
                    first | go_ret | refine ⟨_, results_tmp rfl _ _ _, ?_⟩
                    exact ⟨by first | rfl | (simp [errW_none, errW_some] <;> rfl) | (simp [*, errW_none, errW_some] <;> rfl), by repeat (first | (with_reducible first | exact HB.out | apply below_alloc | apply pw_below_drewN | apply below_drew1) | exact HB.out)⟩
                  · replace c12 := Bool.eq_false_iff.mpr c12
                    subst c12
                    have H1 : (dragomanlaw14_LexJoined.l1 kj8 l0 a1 x5_1 (rd_L1 l0 x18_1) l0 (l0.length : Int) x18_1 (rd_L1 l0 x18_1) ((rd_L1 l0 x18_1).length : Int) 0) = some r := by rw [if_neg (show ¬ (false = true) by decide)] at H; exact H
                    clear H
                    have H := H1
                    clear H1
                    have H' := Aside0.mk H
                    clear H
                    go_wp2
                    repeat (go_quiet (fail); try go_wp2)
                    go_loopg [5, 37] kj8 (fun kq v5 v37 w' => ∃ (x5_3 : ByteArray) (x37_3 : Int), v5 = .string x5_3 ∧ v37 = .int .i64 x37_3 ∧ Aside0 (dragomanlaw14_LexJoined.l1 kq l0 a1 x5_3 (rd_L1 l0 x18_1) l0 (l0.length : Int) x18_1 (rd_L1 l0 x18_1) ((rd_L1 l0 x18_1).length : Int) x37_3 = some r) ∧ Aside0 (kq ≤ kj8) ∧ Aside0 (Below w.heap.size w w'))
                    case atStart => exact ⟨(x5_1), (0), (by first | rfl | (simp; done) | (simp [*]; done)), (by first | rfl | (simp; done) | (simp [*]; done)), H', ⟨Nat.le_refl _⟩, ⟨by repeat (first | (with_reducible first | exact HB.out | apply below_alloc | apply pw_below_drewN | apply below_drew1) | exact HB.out)⟩⟩
                    case round =>
                      clear H'
                      try clear c1
                      try clear c2
                      try clear p2
                      try clear q2
                      try clear hx2
                      try clear c4
                      try clear c5
                      try clear c6
                      try clear c6b0
                      try clear c7
                      try clear c7b0
                      try clear c8
                      try clear c8b0
                      try clear c10
                      try clear c10b0
                      try clear c10b1
                      try clear c10b2
                      try clear c11
                      try clear c11b0
                      try clear c11b1
                      try clear c12
                      try clear hx247_0
                      try clear p2
                      try clear p247
                      try clear q2
                      try clear q247
                      obtain ⟨x5_3, x37_3, rfl, rfl, HA, HK3, HB⟩ := hrel
                      cases gk with
                      | zero => exact absurd HA.out (by simp [dragomanlaw14_LexJoined.l1])
                      | succ k3 =>
                        have H := HA.out
                        clear HA
                        simp only [dragomanlaw14_LexJoined.l1] at H
                        by_cases c13 : x37_3 < ((rd_L1 l0 x18_1).length : Int)
                        · rw [if_pos c13] at H
                          have c13b0 : decide (x37_3 < ((rd_L1 l0 x18_1).length : Int)) = true := decide_eq_true c13
                          clear c13
                          by_cases c14 : 0 ≤ x37_3
                          · rw [if_pos c14] at H
                            have c14b0 : decide (0 ≤ x37_3) = true := decide_eq_true c14
                            clear c14
                            by_cases c15 : x37_3 < ((rd_L1 l0 x18_1).length : Int)
                            · rw [if_pos c15] at H
                              have c15b0 : decide (x37_3 < ((rd_L1 l0 x18_1).length : Int)) = true := decide_eq_true c15
                              clear c15
                              have HC16 := Aside0.mk H
                              clear H
                              have p249 : 0 ≤ (x37_3 : Int) := of_decide_eq_true (by first | (with_reducible assumption) | assumption)
                              have q249 : x37_3 < ((rd_L1 l0 x18_1).length : Int) := of_decide_eq_true (by first | (with_reducible assumption) | assumption)
                              obtain ⟨ad249, e249, hx249_0⟩ := Kd.at_string HR247_0.out x37_3 p249 q249
                              cases e249
                              replace hx249_0 := (HB.out.cell (World.block_lt_of_cell? w _ hx249_0)).trans hx249_0
                              replace p249 := eq_true p249
                              replace q249 := eq_true q249
                              go_upto_region 12 with (fail)
                              repeat (go_quiet (fail); go_upto_region 12 with (fail))
                              go_cut [58] (fun v58 wc => ∃ (kq : Nat) (x58_15 : Bool), v58 = .bool x58_15 ∧ Aside0 (dragomanlaw14_LexJoined.j3 kq l0 a1 x5_3 (rd_L1 l0 x18_1) (rdOf ByteArray.empty (rd_L1 l0 x18_1) x37_3) l0 (l0.length : Int) x18_1 (rd_L1 l0 x18_1) ((rd_L1 l0 x18_1).length : Int) x37_3 x58_15 = some r) ∧ Aside0 (kq ≤ k3) ∧ Aside0 (Below w.heap.size w wc))
                              case first =>
                                have H := HC16.out
                                clear HC16
                                by_cases c17 : ((rdOf ByteArray.empty (rd_L1 l0 x18_1) x37_3).size : Int) = 0
                                · rw [if_pos c17] at H
                                  have c17b0 : (((rdOf ByteArray.empty (rd_L1 l0 x18_1) x37_3).size : Int) == 0) = true := beq_iff_eq.mpr c17
                                  have c17b1 : (((rdOf ByteArray.empty (rd_L1 l0 x18_1) x37_3).size : Int) != 0) = false := bne_eq_false_iff_eq.mpr c17
                                  clear c17
                                  (first | rw [c17b0] | (simp only [i64_w, i32_w]; rw [c17b0]) | rw [c17b1] | skip)
                                  have H' := Aside0.mk H
                                  clear H
                                  go_wp2
                                  repeat (go_quiet (fail); try go_wp2)
                                  go_meet
                                  case rel => exact ⟨_, (true), (by first | rfl | (simp; done) | (simp [*]; done)), H', ⟨by have := HK1.out; have := HJ8.out; have := HK3.out; first | omega | exact Nat.le_refl _⟩, ⟨by repeat (first | (with_reducible first | exact HB.out | apply below_alloc | apply pw_below_drewN | apply below_drew1) | exact HB.out)⟩⟩
                                · rw [if_neg c17] at H
                                  have c17b0 : (((rdOf ByteArray.empty (rd_L1 l0 x18_1) x37_3).size : Int) == 0) = false := beq_eq_false_iff_ne.mpr c17
                                  have c17b1 : (((rdOf ByteArray.empty (rd_L1 l0 x18_1) x37_3).size : Int) != 0) = true := bne_iff_ne.mpr c17
                                  (first | rw [c17b0] | (simp only [i64_w, i32_w]; rw [c17b0]) | rw [c17b1] | skip)
                                  by_cases c18 : ((rdOf ByteArray.empty (rd_L1 l0 x18_1) x37_3).size : Int) > 100
                                  · rw [if_pos c18] at H
                                    have c18b0 : decide (100 < ((rdOf ByteArray.empty (rd_L1 l0 x18_1) x37_3).size : Int)) = true := decide_eq_true c18
                                    have c18b1 : decide (100 < (rdOf ByteArray.empty (rd_L1 l0 x18_1) x37_3).size) = true := decide_eq_true (by omega)
                                    clear c18
                                    have H' := Aside0.mk H
                                    clear H
                                    go_wp2
                                    repeat (go_quiet (fail); try go_wp2)
                                    go_meet
                                    case rel => exact ⟨_, (true), (by first | rfl | (simp; done) | (simp [*]; done)), H', ⟨by have := HK1.out; have := HJ8.out; have := HK3.out; first | omega | exact Nat.le_refl _⟩, ⟨by repeat (first | (with_reducible first | exact HB.out | apply below_alloc | apply pw_below_drewN | apply below_drew1) | exact HB.out)⟩⟩
                                  · rw [if_neg c18] at H
                                    have c18b0 : decide (100 < ((rdOf ByteArray.empty (rd_L1 l0 x18_1) x37_3).size : Int)) = false := decide_eq_false c18
                                    have c18b1 : decide (100 < (rdOf ByteArray.empty (rd_L1 l0 x18_1) x37_3).size) = false := decide_eq_false (by omega)
                                    clear c18
                                    by_cases c19 : x37_3 = 0
                                    · rw [if_pos c19] at H
                                      have c19b0 : (x37_3 == 0) = true := beq_iff_eq.mpr c19
                                      have c19b1 : (x37_3 != 0) = false := bne_eq_false_iff_eq.mpr c19
                                      clear c19
                                      by_cases c20 : 0 < ((rdOf ByteArray.empty (rd_L1 l0 x18_1) x37_3).size : Int)
                                      · rw [if_pos c20] at H
                                        have c20b0 : decide (0 < ((rdOf ByteArray.empty (rd_L1 l0 x18_1) x37_3).size : Int)) = true := decide_eq_true c20
                                        have c20b1 : decide (0 < (rdOf ByteArray.empty (rd_L1 l0 x18_1) x37_3).size) = true := decide_eq_true (by omega)
                                        clear c20
                                        have H' := Aside0.mk H
                                        clear H
                                        have p21 : 0 ≤ (0 : Int) := (by omega)
                                        have q21 : 0 < (rdOf ByteArray.empty (rd_L1 l0 x18_1) x37_3).size := (by have : (0 : Int) < ((rdOf ByteArray.empty (rd_L1 l0 x18_1) x37_3).size : Int) := of_decide_eq_true (by first | (with_reducible assumption) | assumption); omega)
                                        have hx21 : ∀ h : 0 < (rdOf ByteArray.empty (rd_L1 l0 x18_1) x37_3).size, (((rdOf ByteArray.empty (rd_L1 l0 x18_1) x37_3)[0]'h).toNat : Int) = bt (rdOf ByteArray.empty (rd_L1 l0 x18_1) x37_3) 0 := bt_at (rdOf ByteArray.empty (rd_L1 l0 x18_1) x37_3) 0
                                        clear p21
                                        have qi21 : (0 < ((rdOf ByteArray.empty (rd_L1 l0 x18_1) x37_3).size : Int)) = True := eq_true (of_decide_eq_true (by first | (with_reducible assumption) | assumption))
                                        replace q21 := eq_true q21
                                        go_wp2
                                        repeat (go_quiet (fail); try go_wp2)
                                        go_meet
                                        case rel => exact ⟨_, (((bt (rdOf ByteArray.empty (rd_L1 l0 x18_1) x37_3) 0) == 33)), (by first | rfl | (simp; done) | (simp [*]; done)), H', ⟨by have := HK1.out; have := HJ8.out; have := HK3.out; first | omega | exact Nat.le_refl _⟩, ⟨by repeat (first | (with_reducible first | exact HB.out | apply below_alloc | apply pw_below_drewN | apply below_drew1) | exact HB.out)⟩⟩
                                      · rw [if_neg c20] at H
                                        exact absurd H (by simp)
                                    · rw [if_neg c19] at H
                                      have c19b0 : (x37_3 == 0) = false := beq_eq_false_iff_ne.mpr c19
                                      have c19b1 : (x37_3 != 0) = true := bne_iff_ne.mpr c19
                                      have H' := Aside0.mk H
                                      clear H
                                      go_wp2
                                      repeat (go_quiet (fail); try go_wp2)
                                      go_meet
                                      case rel => exact ⟨_, (false), (by first | rfl | (simp; done) | (simp [*]; done)), H', ⟨by have := HK1.out; have := HJ8.out; have := HK3.out; first | omega | exact Nat.le_refl _⟩, ⟨by repeat (first | (with_reducible first | exact HB.out | apply below_alloc | apply pw_below_drewN | apply below_drew1) | exact HB.out)⟩⟩
                              case rest =>
                                clear HC16
                                try clear c1
                                try clear c2
                                try clear p2
                                try clear q2
                                try clear hx2
                                try clear qi2
                                try clear c4
                                try clear c5
                                try clear c6
                                try clear c6b0
                                try clear c7
                                try clear c7b0
                                try clear c8
                                try clear c8b0
                                try clear c10
                                try clear c10b0
                                try clear c10b1
                                try clear c10b2
                                try clear c11
                                try clear c11b0
                                try clear c11b1
                                try clear c12
                                try clear c13
                                try clear c13b0
                                try clear c14
                                try clear c14b0
                                try clear c15
                                try clear c15b0
                                try clear c17
                                try clear c17b0
                                try clear c17b1
                                try clear c18
                                try clear c18b0
                                try clear c18b1
                                try clear c19
                                try clear c19b0
                                try clear c19b1
                                try clear c20
                                try clear c20b0
                                try clear c20b1
                                try clear p21
                                try clear q21
                                try clear hx21
                                try clear qi21
                                try clear hx247_0
                                try clear hx249_0
                                try clear p2
                                try clear p21
                                try clear p247
                                try clear p249
                                try clear q2
                                try clear q21
                                try clear q247
                                try clear q249
                                obtain ⟨kq, x58_15, rfl, HA, HJ15, HB⟩ := hcut
                                cases kq with
                                | zero => exact absurd HA.out (by simp [dragomanlaw14_LexJoined.j3])
                                | succ kj15 =>
                                  have H := HA.out
                                  clear HA
                                  simp only [dragomanlaw14_LexJoined.j3] at H
                                  by_cases c22 : x58_15 = true
                                  · subst c22
                                    have H1 : (some true) = some r := by rw [if_pos rfl] at H; exact H
                                    clear H
                                    have H := H1
                                    clear H1
                                    obtain rfl := Option.some.inj H
                                    go_wp2
                                    repeat (go_quiet (fail); try go_wp2)
                                    first | go_ret | refine ⟨_, results_tmp rfl _ _ _, ?_⟩
                                    exact ⟨by first | rfl | (simp [errW_none, errW_some] <;> rfl) | (simp [*, errW_none, errW_some] <;> rfl), by repeat (first | (with_reducible first | exact HB.out | apply below_alloc | apply pw_below_drewN | apply below_drew1) | exact HB.out)⟩
                                  · replace c22 := Bool.eq_false_iff.mpr c22
                                    subst c22
                                    have H1 : (dragomanlaw14_LexJoined.l2 kj15 l0 a1 x5_3 (rd_L1 l0 x18_1) (rdOf ByteArray.empty (rd_L1 l0 x18_1) x37_3) l0 (l0.length : Int) x18_1 (rd_L1 l0 x18_1) ((rd_L1 l0 x18_1).length : Int) x37_3 ((rdOf ByteArray.empty (rd_L1 l0 x18_1) x37_3).size : Int) 0) = some r := by rw [if_neg (show ¬ (false = true) by decide)] at H; exact H
                                    clear H
                                    have H := H1
                                    clear H1
                                    have H' := Aside0.mk H
                                    clear H
                                    go_wp2
                                    repeat (go_quiet (fail); try go_wp2)
                                    go_loopg [61] kj15 (fun kq v61 w' => ∃ (x61_5 : Int), v61 = .int .i64 x61_5 ∧ Aside0 (dragomanlaw14_LexJoined.l2 kq l0 a1 x5_3 (rd_L1 l0 x18_1) (rdOf ByteArray.empty (rd_L1 l0 x18_1) x37_3) l0 (l0.length : Int) x18_1 (rd_L1 l0 x18_1) ((rd_L1 l0 x18_1).length : Int) x37_3 ((rdOf ByteArray.empty (rd_L1 l0 x18_1) x37_3).size : Int) x61_5 = some r) ∧ Aside0 (kq ≤ kj15) ∧ Aside0 (Below w.heap.size w w'))
                                    case atStart => exact ⟨(0), (by first | rfl | (simp; done) | (simp [*]; done)), H', ⟨Nat.le_refl _⟩, ⟨by repeat (first | (with_reducible first | exact HB.out | apply below_alloc | apply pw_below_drewN | apply below_drew1) | exact HB.out)⟩⟩
                                    case round =>
                                      clear H'
                                      try clear c1
                                      try clear c2
                                      try clear p2
                                      try clear q2
                                      try clear hx2
                                      try clear qi2
                                      try clear c4
                                      try clear c5
                                      try clear c6
                                      try clear c6b0
                                      try clear c7
                                      try clear c7b0
                                      try clear c8
                                      try clear c8b0
                                      try clear c10
                                      try clear c10b0
                                      try clear c10b1
                                      try clear c10b2
                                      try clear c11
                                      try clear c11b0
                                      try clear c11b1
                                      try clear c12
                                      try clear c13
                                      try clear c13b0
                                      try clear c14
                                      try clear c14b0
                                      try clear c15
                                      try clear c15b0
                                      try clear c17
                                      try clear c17b0
                                      try clear c17b1
                                      try clear c18
                                      try clear c18b0
                                      try clear c18b1
                                      try clear c19
                                      try clear c19b0
                                      try clear c19b1
                                      try clear c20
                                      try clear c20b0
                                      try clear c20b1
                                      try clear p21
                                      try clear q21
                                      try clear hx21
                                      try clear qi21
                                      try clear c22
                                      try clear hx247_0
                                      try clear hx249_0
                                      try clear p2
                                      try clear p21
                                      try clear p247
                                      try clear p249
                                      try clear q2
                                      try clear q21
                                      try clear q247
                                      try clear q249
                                      obtain ⟨x61_5, rfl, HA, HK5, HB⟩ := hrel
                                      cases gk with
                                      | zero => exact absurd HA.out (by simp [dragomanlaw14_LexJoined.l2])
                                      | succ k5 =>
                                        have H := HA.out
                                        clear HA
                                        simp only [dragomanlaw14_LexJoined.l2] at H
                                        by_cases c23 : x61_5 < ((rdOf ByteArray.empty (rd_L1 l0 x18_1) x37_3).size : Int)
                                        · rw [if_pos c23] at H
                                          have c23b0 : decide (x61_5 < ((rdOf ByteArray.empty (rd_L1 l0 x18_1) x37_3).size : Int)) = true := decide_eq_true c23
                                          clear c23
                                          by_cases c24 : 0 ≤ x61_5
                                          · rw [if_pos c24] at H
                                            have c24b0 : decide (0 ≤ x61_5) = true := decide_eq_true c24
                                            clear c24
                                            by_cases c25 : x61_5 < ((rdOf ByteArray.empty (rd_L1 l0 x18_1) x37_3).size : Int)
                                            · rw [if_pos c25] at H
                                              have c25b0 : decide (x61_5 < ((rdOf ByteArray.empty (rd_L1 l0 x18_1) x37_3).size : Int)) = true := decide_eq_true c25
                                              clear c25
                                              by_cases c27 : (bt (rdOf ByteArray.empty (rd_L1 l0 x18_1) x37_3) x61_5) ≤ 32
                                              · rw [if_pos c27] at H
                                                have c27b0 : decide ((bt (rdOf ByteArray.empty (rd_L1 l0 x18_1) x37_3) x61_5) ≤ 32) = true := decide_eq_true c27
                                                clear c27
                                                obtain rfl := Option.some.inj H
                                                have p26 : 0 ≤ (x61_5 : Int) := of_decide_eq_true (by first | (with_reducible assumption) | assumption)
                                                have q26 : x61_5 < ((rdOf ByteArray.empty (rd_L1 l0 x18_1) x37_3).size : Int) := of_decide_eq_true (by first | (with_reducible assumption) | assumption)
                                                have hx26 := bt_at (rdOf ByteArray.empty (rd_L1 l0 x18_1) x37_3) x61_5
                                                replace p26 := eq_true p26
                                                replace q26 := eq_true q26
                                                go_wp2
                                                repeat (go_quiet (fail); try go_wp2)
                                                first | go_ret | refine ⟨_, results_tmp rfl _ _ _, ?_⟩
                                                exact ⟨by first | rfl | (simp [errW_none, errW_some] <;> rfl) | (simp [*, errW_none, errW_some] <;> rfl), by repeat (first | (with_reducible first | exact HB.out | apply below_alloc | apply pw_below_drewN | apply below_drew1) | exact HB.out)⟩
                                              · rw [if_neg c27] at H
                                                have c27b0 : decide ((bt (rdOf ByteArray.empty (rd_L1 l0 x18_1) x37_3) x61_5) ≤ 32) = false := decide_eq_false c27
                                                clear c27
                                                by_cases c29 : (bt (rdOf ByteArray.empty (rd_L1 l0 x18_1) x37_3) x61_5) > 126
                                                · rw [if_pos c29] at H
                                                  have c29b0 : decide (126 < (bt (rdOf ByteArray.empty (rd_L1 l0 x18_1) x37_3) x61_5)) = true := decide_eq_true c29
                                                  clear c29
                                                  obtain rfl := Option.some.inj H
                                                  have p26 : 0 ≤ (x61_5 : Int) := of_decide_eq_true (by first | (with_reducible assumption) | assumption)
                                                  have q26 : x61_5 < ((rdOf ByteArray.empty (rd_L1 l0 x18_1) x37_3).size : Int) := of_decide_eq_true (by first | (with_reducible assumption) | assumption)
                                                  have hx26 := bt_at (rdOf ByteArray.empty (rd_L1 l0 x18_1) x37_3) x61_5
                                                  replace p26 := eq_true p26
                                                  replace q26 := eq_true q26
                                                  have p28 : 0 ≤ (x61_5 : Int) := of_decide_eq_true (by first | (with_reducible assumption) | assumption)
                                                  have q28 : x61_5 < ((rdOf ByteArray.empty (rd_L1 l0 x18_1) x37_3).size : Int) := of_decide_eq_true (by first | (with_reducible assumption) | assumption)
                                                  have hx28 := bt_at (rdOf ByteArray.empty (rd_L1 l0 x18_1) x37_3) x61_5
                                                  replace p28 := eq_true p28
                                                  replace q28 := eq_true q28
                                                  go_wp2
                                                  repeat (go_quiet (fail); try go_wp2)
                                                  first | go_ret | refine ⟨_, results_tmp rfl _ _ _, ?_⟩
                                                  exact ⟨by first | rfl | (simp [errW_none, errW_some] <;> rfl) | (simp [*, errW_none, errW_some] <;> rfl), by repeat (first | (with_reducible first | exact HB.out | apply below_alloc | apply pw_below_drewN | apply below_drew1) | exact HB.out)⟩
                                                · rw [if_neg c29] at H
                                                  have c29b0 : decide (126 < (bt (rdOf ByteArray.empty (rd_L1 l0 x18_1) x37_3) x61_5)) = false := decide_eq_false c29
                                                  clear c29
                                                  have H' := Aside0.mk H
                                                  clear H
                                                  have p26 : 0 ≤ (x61_5 : Int) := of_decide_eq_true (by first | (with_reducible assumption) | assumption)
                                                  have q26 : x61_5 < ((rdOf ByteArray.empty (rd_L1 l0 x18_1) x37_3).size : Int) := of_decide_eq_true (by first | (with_reducible assumption) | assumption)
                                                  have hx26 := bt_at (rdOf ByteArray.empty (rd_L1 l0 x18_1) x37_3) x61_5
                                                  replace p26 := eq_true p26
                                                  replace q26 := eq_true q26
                                                  have p28 : 0 ≤ (x61_5 : Int) := of_decide_eq_true (by first | (with_reducible assumption) | assumption)
                                                  have q28 : x61_5 < ((rdOf ByteArray.empty (rd_L1 l0 x18_1) x37_3).size : Int) := of_decide_eq_true (by first | (with_reducible assumption) | assumption)
                                                  have hx28 := bt_at (rdOf ByteArray.empty (rd_L1 l0 x18_1) x37_3) x61_5
                                                  replace p28 := eq_true p28
                                                  replace q28 := eq_true q28
                                                  go_wp2
                                                  repeat (go_quiet (fail); try go_wp2)
                                                  go_roundg k5
                                                  case measure => have := HK1.out; have := HJ8.out; have := HK3.out; have := HJ15.out; have := HK5.out; omega
                                                  case rel => exact ⟨(wrap64 (x61_5 + 1)), (by first | rfl | (simp; done) | (simp [*]; done)), H', ⟨by have := HK1.out; have := HJ8.out; have := HK3.out; have := HJ15.out; have := HK5.out; omega⟩, ⟨by repeat (first | (with_reducible first | exact HB.out | apply below_alloc | apply pw_below_drewN | apply below_drew1) | exact HB.out)⟩⟩
                                            · rw [if_neg c25] at H
                                              exact absurd H (by simp)
                                          · rw [if_neg c24] at H
                                            exact absurd H (by simp)
                                        · rw [if_neg c23] at H
                                          have c23b0 : decide (x61_5 < ((rdOf ByteArray.empty (rd_L1 l0 x18_1) x37_3).size : Int)) = false := decide_eq_false c23
                                          clear c23
                                          by_cases c30 : a1 = true
                                          · subst c30
                                            have H1 : (if x5_3.size + 2 ≤ 9223372036854775807 then (if (rdOf ByteArray.empty (rd_L1 l0 x18_1) x37_3).size + 1 ≤ 9223372036854775807 then (if (x5_3 ++ (⟨#[9, 32]⟩ : ByteArray)).size + ((rdOf ByteArray.empty (rd_L1 l0 x18_1) x37_3) ++ (⟨#[32]⟩ : ByteArray)).size ≤ 9223372036854775807 then (dragomanlaw14_LexJoined.l1 k5 l0 true ((x5_3 ++ (⟨#[9, 32]⟩ : ByteArray)) ++ ((rdOf ByteArray.empty (rd_L1 l0 x18_1) x37_3) ++ (⟨#[32]⟩ : ByteArray))) (rd_L1 l0 x18_1) l0 (l0.length : Int) x18_1 (rd_L1 l0 x18_1) ((rd_L1 l0 x18_1).length : Int) (wrap64 (x37_3 + 1))) else (none)) else (none)) else (none)) = some r := by rw [if_pos rfl] at H; exact H
                                            clear H
                                            have H := H1
                                            clear H1
                                            by_cases c31 : x5_3.size + 2 ≤ 9223372036854775807
                                            · rw [if_pos c31] at H
                                              have c31b0 := eq_true c31
                                              have c31b1 : decide (x5_3.size + 2 ≤ 9223372036854775807) = true := decide_eq_true c31
                                              try have c31b2 : (9223372036854775807 < x5_3.size + 2) = False := eq_false (Nat.not_lt.2 c31)
                                              by_cases c32 : (rdOf ByteArray.empty (rd_L1 l0 x18_1) x37_3).size + 1 ≤ 9223372036854775807
                                              · rw [if_pos c32] at H
                                                have c32b0 := eq_true c32
                                                have c32b1 : decide ((rdOf ByteArray.empty (rd_L1 l0 x18_1) x37_3).size + 1 ≤ 9223372036854775807) = true := decide_eq_true c32
                                                try have c32b2 : (9223372036854775807 < (rdOf ByteArray.empty (rd_L1 l0 x18_1) x37_3).size + 1) = False := eq_false (Nat.not_lt.2 c32)
                                                by_cases c33 : (x5_3 ++ (⟨#[9, 32]⟩ : ByteArray)).size + ((rdOf ByteArray.empty (rd_L1 l0 x18_1) x37_3) ++ (⟨#[32]⟩ : ByteArray)).size ≤ 9223372036854775807
                                                · rw [if_pos c33] at H
                                                  have c33b0 := eq_true c33
                                                  have c33b1 : decide ((x5_3 ++ (⟨#[9, 32]⟩ : ByteArray)).size + ((rdOf ByteArray.empty (rd_L1 l0 x18_1) x37_3) ++ (⟨#[32]⟩ : ByteArray)).size ≤ 9223372036854775807) = true := decide_eq_true c33
                                                  try have c33b2 : (9223372036854775807 < (x5_3 ++ (⟨#[9, 32]⟩ : ByteArray)).size + ((rdOf ByteArray.empty (rd_L1 l0 x18_1) x37_3) ++ (⟨#[32]⟩ : ByteArray)).size) = False := eq_false (Nat.not_lt.2 c33)
                                                  have H' := Aside0.mk H
                                                  clear H
                                                  go_wp2
                                                  repeat (go_quiet (fail); try go_wp2)
                                                  go_roundg k5
                                                  case measure => have := HK1.out; have := HJ8.out; have := HK3.out; have := HJ15.out; have := HK5.out; omega
                                                  case rel => exact ⟨((x5_3 ++ (⟨#[9, 32]⟩ : ByteArray)) ++ ((rdOf ByteArray.empty (rd_L1 l0 x18_1) x37_3) ++ (⟨#[32]⟩ : ByteArray))), (wrap64 (x37_3 + 1)), (by first | rfl | (simp; done) | (simp [*]; done)), (by first | rfl | (simp; done) | (simp [*]; done)), H', ⟨by have := HK1.out; have := HJ8.out; have := HK3.out; have := HJ15.out; have := HK5.out; omega⟩, ⟨by repeat (first | (with_reducible first | exact HB.out | apply below_alloc | apply pw_below_drewN | apply below_drew1) | exact HB.out)⟩⟩
                                                · rw [if_neg c33] at H
                                                  exact absurd H (by simp)
                                              · rw [if_neg c32] at H
                                                exact absurd H (by simp)
                                            · rw [if_neg c31] at H
                                              exact absurd H (by simp)
                                          · replace c30 := Bool.eq_false_iff.mpr c30
                                            subst c30
                                            have H1 : (if (rdOf ByteArray.empty (rd_L1 l0 x18_1) x37_3).size + 1 ≤ 9223372036854775807 then (if x5_3.size + ((rdOf ByteArray.empty (rd_L1 l0 x18_1) x37_3) ++ (⟨#[32]⟩ : ByteArray)).size ≤ 9223372036854775807 then (dragomanlaw14_LexJoined.l1 k5 l0 false (x5_3 ++ ((rdOf ByteArray.empty (rd_L1 l0 x18_1) x37_3) ++ (⟨#[32]⟩ : ByteArray))) (rd_L1 l0 x18_1) l0 (l0.length : Int) x18_1 (rd_L1 l0 x18_1) ((rd_L1 l0 x18_1).length : Int) (wrap64 (x37_3 + 1))) else (none)) else (none)) = some r := by rw [if_neg (show ¬ (false = true) by decide)] at H; exact H
                                            clear H
                                            have H := H1
                                            clear H1
                                            by_cases c34 : (rdOf ByteArray.empty (rd_L1 l0 x18_1) x37_3).size + 1 ≤ 9223372036854775807
                                            · rw [if_pos c34] at H
                                              have c34b0 := eq_true c34
                                              have c34b1 : decide ((rdOf ByteArray.empty (rd_L1 l0 x18_1) x37_3).size + 1 ≤ 9223372036854775807) = true := decide_eq_true c34
                                              try have c34b2 : (9223372036854775807 < (rdOf ByteArray.empty (rd_L1 l0 x18_1) x37_3).size + 1) = False := eq_false (Nat.not_lt.2 c34)
                                              by_cases c35 : x5_3.size + ((rdOf ByteArray.empty (rd_L1 l0 x18_1) x37_3) ++ (⟨#[32]⟩ : ByteArray)).size ≤ 9223372036854775807
                                              · rw [if_pos c35] at H
                                                have c35b0 := eq_true c35
                                                have c35b1 : decide (x5_3.size + ((rdOf ByteArray.empty (rd_L1 l0 x18_1) x37_3) ++ (⟨#[32]⟩ : ByteArray)).size ≤ 9223372036854775807) = true := decide_eq_true c35
                                                try have c35b2 : (9223372036854775807 < x5_3.size + ((rdOf ByteArray.empty (rd_L1 l0 x18_1) x37_3) ++ (⟨#[32]⟩ : ByteArray)).size) = False := eq_false (Nat.not_lt.2 c35)
                                                have H' := Aside0.mk H
                                                clear H
                                                go_wp2
                                                repeat (go_quiet (fail); try go_wp2)
                                                go_roundg k5
                                                case measure => have := HK1.out; have := HJ8.out; have := HK3.out; have := HJ15.out; have := HK5.out; omega
                                                case rel => exact ⟨(x5_3 ++ ((rdOf ByteArray.empty (rd_L1 l0 x18_1) x37_3) ++ (⟨#[32]⟩ : ByteArray))), (wrap64 (x37_3 + 1)), (by first | rfl | (simp; done) | (simp [*]; done)), (by first | rfl | (simp; done) | (simp [*]; done)), H', ⟨by have := HK1.out; have := HJ8.out; have := HK3.out; have := HJ15.out; have := HK5.out; omega⟩, ⟨by repeat (first | (with_reducible first | exact HB.out | apply below_alloc | apply pw_below_drewN | apply below_drew1) | exact HB.out)⟩⟩
                                              · rw [if_neg c35] at H
                                                exact absurd H (by simp)
                                            · rw [if_neg c34] at H
                                              exact absurd H (by simp)
                            · rw [if_neg c15] at H
                              exact absurd H (by simp)
                          · rw [if_neg c14] at H
                            exact absurd H (by simp)
                        · rw [if_neg c13] at H
                          have c13b0 : decide (x37_3 < ((rd_L1 l0 x18_1).length : Int)) = false := decide_eq_false c13
                          clear c13
                          by_cases c36 : x5_3.size + 1 ≤ 9223372036854775807
                          · rw [if_pos c36] at H
                            have c36b0 := eq_true c36
                            have c36b1 : decide (x5_3.size + 1 ≤ 9223372036854775807) = true := decide_eq_true c36
                            try have c36b2 : (9223372036854775807 < x5_3.size + 1) = False := eq_false (Nat.not_lt.2 c36)
                            by_cases c37 : a1 = true
                            · subst c37
                              have H1 : (if 0 < ((rd_L1 l0 x18_1).length : Int) then (if 3 + (rdOf ByteArray.empty (rd_L1 l0 x18_1) 0).size ≤ 9223372036854775807 then (if ((⟨#[32, 10, 33]⟩ : ByteArray) ++ (rdOf ByteArray.empty (rd_L1 l0 x18_1) 0)).size + 1 ≤ 9223372036854775807 then (if (x5_3 ++ (⟨#[10]⟩ : ByteArray)).size + (((⟨#[32, 10, 33]⟩ : ByteArray) ++ (rdOf ByteArray.empty (rd_L1 l0 x18_1) 0)) ++ (⟨#[10]⟩ : ByteArray)).size ≤ 9223372036854775807 then (dragomanlaw14_LexJoined.l0 k3 l0 true ((x5_3 ++ (⟨#[10]⟩ : ByteArray)) ++ (((⟨#[32, 10, 33]⟩ : ByteArray) ++ (rdOf ByteArray.empty (rd_L1 l0 x18_1) 0)) ++ (⟨#[10]⟩ : ByteArray))) l0 (l0.length : Int) (wrap64 (x18_1 + 1))) else (none)) else (none)) else (none)) else (none)) = some r := by rw [if_pos rfl] at H; exact H
                              clear H
                              have H := H1
                              clear H1
                              by_cases c38 : 0 < ((rd_L1 l0 x18_1).length : Int)
                              · rw [if_pos c38] at H
                                have c38b0 : decide (0 < ((rd_L1 l0 x18_1).length : Int)) = true := decide_eq_true c38
                                have c38b1 : decide (0 < (rd_L1 l0 x18_1).length) = true := decide_eq_true (by omega)
                                clear c38
                                by_cases c39 : 3 + (rdOf ByteArray.empty (rd_L1 l0 x18_1) 0).size ≤ 9223372036854775807
                                · rw [if_pos c39] at H
                                  have c39b0 := eq_true c39
                                  have c39b1 : decide (3 + (rdOf ByteArray.empty (rd_L1 l0 x18_1) 0).size ≤ 9223372036854775807) = true := decide_eq_true c39
                                  try have c39b2 : (9223372036854775807 < 3 + (rdOf ByteArray.empty (rd_L1 l0 x18_1) 0).size) = False := eq_false (Nat.not_lt.2 c39)
                                  by_cases c40 : ((⟨#[32, 10, 33]⟩ : ByteArray) ++ (rdOf ByteArray.empty (rd_L1 l0 x18_1) 0)).size + 1 ≤ 9223372036854775807
                                  · rw [if_pos c40] at H
                                    have c40b0 := eq_true c40
                                    have c40b1 : decide (((⟨#[32, 10, 33]⟩ : ByteArray) ++ (rdOf ByteArray.empty (rd_L1 l0 x18_1) 0)).size + 1 ≤ 9223372036854775807) = true := decide_eq_true c40
                                    try have c40b2 : (9223372036854775807 < ((⟨#[32, 10, 33]⟩ : ByteArray) ++ (rdOf ByteArray.empty (rd_L1 l0 x18_1) 0)).size + 1) = False := eq_false (Nat.not_lt.2 c40)
                                    have c40b3 : (9223372036854775807 < 3 + ((rdOf ByteArray.empty (rd_L1 l0 x18_1) 0)).size + 1) = False := eq_false (by have h_ := c40; rw [ByteArray.size_append] at h_; exact Nat.not_lt.2 h_)
                                    by_cases c41 : (x5_3 ++ (⟨#[10]⟩ : ByteArray)).size + (((⟨#[32, 10, 33]⟩ : ByteArray) ++ (rdOf ByteArray.empty (rd_L1 l0 x18_1) 0)) ++ (⟨#[10]⟩ : ByteArray)).size ≤ 9223372036854775807
                                    · rw [if_pos c41] at H
                                      have c41b0 := eq_true c41
                                      have c41b1 : decide ((x5_3 ++ (⟨#[10]⟩ : ByteArray)).size + (((⟨#[32, 10, 33]⟩ : ByteArray) ++ (rdOf ByteArray.empty (rd_L1 l0 x18_1) 0)) ++ (⟨#[10]⟩ : ByteArray)).size ≤ 9223372036854775807) = true := decide_eq_true c41
                                      try have c41b2 : (9223372036854775807 < (x5_3 ++ (⟨#[10]⟩ : ByteArray)).size + (((⟨#[32, 10, 33]⟩ : ByteArray) ++ (rdOf ByteArray.empty (rd_L1 l0 x18_1) 0)) ++ (⟨#[10]⟩ : ByteArray)).size) = False := eq_false (Nat.not_lt.2 c41)
                                      have H' := Aside0.mk H
                                      clear H
                                      have p248 : 0 ≤ (0 : Int) := (by omega)
                                      have q248 : 0 < ((rd_L1 l0 x18_1).length : Int) := of_decide_eq_true (by first | (with_reducible assumption) | assumption)
                                      obtain ⟨ad248, e248, hx248_0⟩ := Kd.at_string HR247_0.out 0 p248 q248
                                      cases e248
                                      have qi248 : (0 < (rd_L1 l0 x18_1).length) = True := eq_true (by omega)
                                      (try rw [show ((0 : Int)).toNat = 0 from rfl] at hx248_0)
                                      (try rw [Addr.add_zero'] at hx248_0)
                                      replace hx248_0 := (HB.out.cell (World.block_lt_of_cell? w _ hx248_0)).trans hx248_0
                                      replace p248 := eq_true p248
                                      replace q248 := eq_true q248
                                      go_wp2
                                      repeat (go_quiet (fail); try go_wp2)
                                      go_roundg k3
                                      case measure => have := HK1.out; have := HJ8.out; have := HK3.out; omega
                                      case rel => exact ⟨((x5_3 ++ (⟨#[10]⟩ : ByteArray)) ++ (((⟨#[32, 10, 33]⟩ : ByteArray) ++ (rdOf ByteArray.empty (rd_L1 l0 x18_1) 0)) ++ (⟨#[10]⟩ : ByteArray))), (wrap64 (x18_1 + 1)), (by first | rfl | (simp; done) | (simp [*]; done)), (by first | rfl | (simp; done) | (simp [*]; done)), H', ⟨by have := HK1.out; have := HJ8.out; have := HK3.out; omega⟩, ⟨by repeat (first | (with_reducible first | exact HB.out | apply below_alloc | apply pw_below_drewN | apply below_drew1) | exact HB.out)⟩⟩
                                    · rw [if_neg c41] at H
                                      exact absurd H (by simp)
                                  · rw [if_neg c40] at H
                                    exact absurd H (by simp)
                                · rw [if_neg c39] at H
                                  exact absurd H (by simp)
                              · rw [if_neg c38] at H
                                exact absurd H (by simp)
                            · replace c37 := Bool.eq_false_iff.mpr c37
                              subst c37
                              have H1 : (dragomanlaw14_LexJoined.l0 k3 l0 false (x5_3 ++ (⟨#[10]⟩ : ByteArray)) l0 (l0.length : Int) (wrap64 (x18_1 + 1))) = some r := by rw [if_neg (show ¬ (false = true) by decide)] at H; exact H
                              clear H
                              have H := H1
                              clear H1
                              have H' := Aside0.mk H
                              clear H
                              go_wp2
                              repeat (go_quiet (fail); try go_wp2)
                              go_roundg k3
                              case measure => have := HK1.out; have := HJ8.out; have := HK3.out; omega
                              case rel => exact ⟨(x5_3 ++ (⟨#[10]⟩ : ByteArray)), (wrap64 (x18_1 + 1)), (by first | rfl | (simp; done) | (simp [*]; done)), (by first | rfl | (simp; done) | (simp [*]; done)), H', ⟨by have := HK1.out; have := HJ8.out; have := HK3.out; omega⟩, ⟨by repeat (first | (with_reducible first | exact HB.out | apply below_alloc | apply pw_below_drewN | apply below_drew1) | exact HB.out)⟩⟩
                          · rw [if_neg c36] at H
                            exact absurd H (by simp)
            · rw [if_neg c8] at H
              exact absurd H (by simp)
          · rw [if_neg c7] at H
            exact absurd H (by simp)
        · rw [if_neg c6] at H
          have c6b0 : decide (x18_1 < (l0.length : Int)) = false := decide_eq_false c6
          clear c6
          replace H := Option.bind_eq_some_iff.mp H
          obtain ⟨⟨t250, t251⟩, A420, H⟩ := H
          replace H : (if t251 = 0 then (dragomanlaw14_LexJoined.j5 k1 l0 t250 ((t250.length : Int) != (l0.length : Int))) else (dragomanlaw14_LexJoined.j5 k1 l0 t250 true)) = some r := H
          have A42 := Aside0.mk A420
          clear A420
          have HC43 := Aside0.mk H
          clear H
          go_upto_region 29 with (first | (go_at_call 9; (with_reducible refine (lex_Lines.calls k1 x5_1 t250 t251 _ ?side1 A42.out).mono ?_); (case side1 => exact GL_below hG (by repeat (first | (with_reducible first | exact HB.out | apply below_alloc | apply pw_below_drewN | apply below_drew1) | exact HB.out))); rintro e w44 ⟨v252, rfl, ho0, hb⟩; have n0_ := Aside0.mk (Kd.S_lower ho0 (below_size (by repeat (first | (with_reducible first | exact HB.out | apply below_alloc | apply pw_below_drewN | apply below_drew1) | exact HB.out)))); have n1_ := Aside0.mk (below_step (by repeat (first | (with_reducible first | exact HB.out | apply below_alloc | apply pw_below_drewN | apply below_drew1) | exact HB.out)) hb); clear HB; have HO253 := n0_; have HB := n1_; clear n0_ n1_; (try clear hb); (try clear hb2); (try clear hk); (try clear hi); (try clear ho0)))
          repeat (go_quiet (first | (go_at_call 9; (with_reducible refine (lex_Lines.calls k1 x5_1 t250 t251 _ ?side1 A42.out).mono ?_); (case side1 => exact GL_below hG (by repeat (first | (with_reducible first | exact HB.out | apply below_alloc | apply pw_below_drewN | apply below_drew1) | exact HB.out))); rintro e w44 ⟨v252, rfl, ho0, hb⟩; have n0_ := Aside0.mk (Kd.S_lower ho0 (below_size (by repeat (first | (with_reducible first | exact HB.out | apply below_alloc | apply pw_below_drewN | apply below_drew1) | exact HB.out)))); have n1_ := Aside0.mk (below_step (by repeat (first | (with_reducible first | exact HB.out | apply below_alloc | apply pw_below_drewN | apply below_drew1) | exact HB.out)) hb); clear HB; have HO253 := n0_; have HB := n1_; clear n0_ n1_; (try clear hb); (try clear hb2); (try clear hk); (try clear hi); (try clear ho0))); go_upto_region 29 with (first | (go_at_call 9; (with_reducible refine (lex_Lines.calls k1 x5_1 t250 t251 _ ?side1 A42.out).mono ?_); (case side1 => exact GL_below hG (by repeat (first | (with_reducible first | exact HB.out | apply below_alloc | apply pw_below_drewN | apply below_drew1) | exact HB.out))); rintro e w44 ⟨v252, rfl, ho0, hb⟩; have n0_ := Aside0.mk (Kd.S_lower ho0 (below_size (by repeat (first | (with_reducible first | exact HB.out | apply below_alloc | apply pw_below_drewN | apply below_drew1) | exact HB.out)))); have n1_ := Aside0.mk (below_step (by repeat (first | (with_reducible first | exact HB.out | apply below_alloc | apply pw_below_drewN | apply below_drew1) | exact HB.out)) hb); clear HB; have HO253 := n0_; have HB := n1_; clear n0_ n1_; (try clear hb); (try clear hb2); (try clear hk); (try clear hi); (try clear ho0))))
          (try simp only [Act.put, List.setIfInBounds_toArray, List.set_cons_zero, List.set_cons_succ])
          go_cut [107] (fun v107 wc => ∃ (kq : Nat) (x107_42 : Bool), v107 = .bool x107_42 ∧ Aside0 (dragomanlaw14_LexJoined.j5 kq l0 t250 x107_42 = some r) ∧ Aside0 (kq ≤ k1) ∧ Aside0 (Kd.S (Kd.slice 9 Kd.string) 30 wc w.heap.size (fun _ => True) v252 t250) ∧ Aside0 (Below w.heap.size w wc))
          case first =>
            have H := HC43.out
            clear HC43
            by_cases c45 : t251 = 0
            · rw [if_pos c45] at H
              have c45b0 : (t251 == 0) = true := beq_iff_eq.mpr c45
              have c45b1 : (t251 != 0) = false := bne_eq_false_iff_eq.mpr c45
              clear c45
              (first | rw [c45b0] | (simp only [i64_w, i32_w]; rw [c45b0]) | rw [c45b1] | skip)
              have H' := Aside0.mk H
              clear H
              obtain ⟨Ao46, co46, eo46⟩ := Kd.S_slice HO253.out
              subst eo46
              go_wp2
              repeat (go_quiet (fail); try go_wp2)
              go_meet
              case rel => exact ⟨_, (((t250.length : Int) != (l0.length : Int))), (by first | rfl | (simp; done) | (simp [*]; done)), H', ⟨by have := HK1.out; first | omega | exact Nat.le_refl _⟩, ⟨by (with_reducible repeat (first | apply Kd.S_alloc | apply Kd.S_drewN | apply Kd.S_drew)); exact HO253.out⟩, ⟨by repeat (first | (with_reducible first | exact HB.out | apply below_alloc | apply pw_below_drewN | apply below_drew1) | exact HB.out)⟩⟩
            · rw [if_neg c45] at H
              have c45b0 : (t251 == 0) = false := beq_eq_false_iff_ne.mpr c45
              have c45b1 : (t251 != 0) = true := bne_iff_ne.mpr c45
              (first | rw [c45b0] | (simp only [i64_w, i32_w]; rw [c45b0]) | rw [c45b1] | skip)
              have H' := Aside0.mk H
              clear H
              go_wp2
              repeat (go_quiet (fail); try go_wp2)
              go_meet
              case rel => exact ⟨_, (true), (by first | rfl | (simp; done) | (simp [*]; done)), H', ⟨by have := HK1.out; first | omega | exact Nat.le_refl _⟩, ⟨by (with_reducible repeat (first | apply Kd.S_alloc | apply Kd.S_drewN | apply Kd.S_drew)); exact HO253.out⟩, ⟨by repeat (first | (with_reducible first | exact HB.out | apply below_alloc | apply pw_below_drewN | apply below_drew1) | exact HB.out)⟩⟩
          case rest =>
            clear HC43
            try clear c1
            try clear c2
            try clear p2
            try clear q2
            try clear hx2
            try clear qi2
            try clear c3
            try clear c4
            try clear c5
            try clear c6
            try clear c6b0
            try clear p6
            try clear c7
            try clear c7b0
            try clear c8
            try clear c8b0
            try clear c10
            try clear c10b0
            try clear c10b1
            try clear c10b2
            try clear c11
            try clear c11b0
            try clear c11b1
            try clear c12
            try clear c13
            try clear c13b0
            try clear c14
            try clear c14b0
            try clear c15
            try clear c15b0
            try clear c17
            try clear c17b0
            try clear c17b1
            try clear c18
            try clear c18b0
            try clear c18b1
            try clear c19
            try clear c19b0
            try clear c19b1
            try clear c20
            try clear c20b0
            try clear c20b1
            try clear p21
            try clear q21
            try clear hx21
            try clear qi21
            try clear c22
            try clear c23
            try clear c23b0
            try clear c24
            try clear c24b0
            try clear p24
            try clear q24
            try clear hx24
            try clear qi24
            try clear c25
            try clear c25b0
            try clear p26
            try clear q26
            try clear hx26
            try clear c27
            try clear c27b0
            try clear p28
            try clear q28
            try clear hx28
            try clear c29
            try clear c29b0
            try clear c30
            try clear c31
            try clear c31b0
            try clear c31b1
            try clear c31b2
            try clear c32
            try clear c32b0
            try clear c32b1
            try clear c32b2
            try clear c33
            try clear c33b0
            try clear c33b1
            try clear c33b2
            try clear c34
            try clear c34b0
            try clear c34b1
            try clear c34b2
            try clear c35
            try clear c35b0
            try clear c35b1
            try clear c35b2
            try clear c36
            try clear c36b0
            try clear c36b1
            try clear c36b2
            try clear c37
            try clear c38
            try clear c38b0
            try clear c38b1
            try clear c39
            try clear c39b0
            try clear c39b1
            try clear c39b2
            try clear c40
            try clear c40b0
            try clear c40b1
            try clear c40b2
            try clear c41
            try clear c41b0
            try clear c41b1
            try clear c41b2
            try clear c45
            try clear c45b0
            try clear c45b1
            try clear hx247_0
            try clear hx248_0
            try clear hx249_0
            try clear p2
            try clear p21
            try clear p247
            try clear p248
            try clear p249
            try clear p26
            try clear p28
            try clear q2
            try clear q21
            try clear q247
            try clear q248
            try clear q249
            try clear q26
            try clear q28
            obtain ⟨kq, x107_42, rfl, HA, HJ42, HO_11, HB⟩ := hcut
            cases kq with
            | zero => exact absurd HA.out (by simp [dragomanlaw14_LexJoined.j5])
            | succ kj42 =>
              have H := HA.out
              clear HA
              simp only [dragomanlaw14_LexJoined.j5] at H
              by_cases c47 : x107_42 = true
              · subst c47
                have H1 : (none) = some r := by rw [if_pos rfl] at H; exact H
                clear H
                have H := H1
                clear H1
                exact absurd H (by simp)
              · replace c47 := Bool.eq_false_iff.mpr c47
                subst c47
                have H1 : (dragomanlaw14_LexJoined.l3 kj42 l0 t250 (l0.length : Int) 0) = some r := by rw [if_neg (show ¬ (false = true) by decide)] at H; exact H
                clear H
                have H := H1
                clear H1
                have H' := Aside0.mk H
                clear H
                go_wp2
                repeat (go_quiet (fail); try go_wp2)
                go_loopg [110] kj42 (fun kq v110 w' => ∃ (x110_3 : Int), v110 = .int .i64 x110_3 ∧ Aside0 (dragomanlaw14_LexJoined.l3 kq l0 t250 (l0.length : Int) x110_3 = some r) ∧ Aside0 (kq ≤ kj42) ∧ Aside0 (Kd.S (Kd.slice 9 Kd.string) 30 w' w.heap.size (fun _ => True) v252 t250) ∧ Aside0 (Below w.heap.size w w'))
                case atStart => exact ⟨(0), (by first | rfl | (simp; done) | (simp [*]; done)), H', ⟨Nat.le_refl _⟩, ⟨by (with_reducible repeat (first | apply Kd.S_alloc | apply Kd.S_drewN | apply Kd.S_drew)); exact HO_11.out⟩, ⟨by repeat (first | (with_reducible first | exact HB.out | apply below_alloc | apply pw_below_drewN | apply below_drew1) | exact HB.out)⟩⟩
                case round =>
                  clear H'
                  try clear c1
                  try clear c2
                  try clear p2
                  try clear q2
                  try clear hx2
                  try clear qi2
                  try clear c3
                  try clear c4
                  try clear c5
                  try clear c6
                  try clear c6b0
                  try clear p6
                  try clear c7
                  try clear c7b0
                  try clear c8
                  try clear c8b0
                  try clear c10
                  try clear c10b0
                  try clear c10b1
                  try clear c10b2
                  try clear c11
                  try clear c11b0
                  try clear c11b1
                  try clear c12
                  try clear c13
                  try clear c13b0
                  try clear c14
                  try clear c14b0
                  try clear c15
                  try clear c15b0
                  try clear c17
                  try clear c17b0
                  try clear c17b1
                  try clear c18
                  try clear c18b0
                  try clear c18b1
                  try clear c19
                  try clear c19b0
                  try clear c19b1
                  try clear c20
                  try clear c20b0
                  try clear c20b1
                  try clear p21
                  try clear q21
                  try clear hx21
                  try clear qi21
                  try clear c22
                  try clear c23
                  try clear c23b0
                  try clear c24
                  try clear c24b0
                  try clear p24
                  try clear q24
                  try clear hx24
                  try clear qi24
                  try clear c25
                  try clear c25b0
                  try clear p26
                  try clear q26
                  try clear hx26
                  try clear c27
                  try clear c27b0
                  try clear p28
                  try clear q28
                  try clear hx28
                  try clear c29
                  try clear c29b0
                  try clear c30
                  try clear c31
                  try clear c31b0
                  try clear c31b1
                  try clear c31b2
                  try clear c32
                  try clear c32b0
                  try clear c32b1
                  try clear c32b2
                  try clear c33
                  try clear c33b0
                  try clear c33b1
                  try clear c33b2
                  try clear c34
                  try clear c34b0
                  try clear c34b1
                  try clear c34b2
                  try clear c35
                  try clear c35b0
                  try clear c35b1
                  try clear c35b2
                  try clear c36
                  try clear c36b0
                  try clear c36b1
                  try clear c36b2
                  try clear c37
                  try clear c38
                  try clear c38b0
                  try clear c38b1
                  try clear c39
                  try clear c39b0
                  try clear c39b1
                  try clear c39b2
                  try clear c40
                  try clear c40b0
                  try clear c40b1
                  try clear c40b2
                  try clear c41
                  try clear c41b0
                  try clear c41b1
                  try clear c41b2
                  try clear c45
                  try clear c45b0
                  try clear c45b1
                  try clear c47
                  try clear hx247_0
                  try clear hx248_0
                  try clear hx249_0
                  try clear p2
                  try clear p21
                  try clear p24
                  try clear p247
                  try clear p248
                  try clear p249
                  try clear p26
                  try clear p28
                  try clear p6
                  try clear q2
                  try clear q21
                  try clear q24
                  try clear q247
                  try clear q248
                  try clear q249
                  try clear q26
                  try clear q28
                  obtain ⟨x110_3, rfl, HA, HK3, HO_11, HB⟩ := hrel
                  cases gk with
                  | zero => exact absurd HA.out (by simp [dragomanlaw14_LexJoined.l3])
                  | succ k3 =>
                    have H := HA.out
                    clear HA
                    simp only [dragomanlaw14_LexJoined.l3] at H
                    by_cases c48 : x110_3 < (l0.length : Int)
                    · rw [if_pos c48] at H
                      have c48b0 : decide (x110_3 < (l0.length : Int)) = true := decide_eq_true c48
                      clear c48
                      by_cases c49 : 0 ≤ x110_3
                      · rw [if_pos c49] at H
                        have c49b0 : decide (0 ≤ x110_3) = true := decide_eq_true c49
                        clear c49
                        by_cases c50 : x110_3 < (t250.length : Int)
                        · rw [if_pos c50] at H
                          have c50b0 : decide (x110_3 < (t250.length : Int)) = true := decide_eq_true c50
                          clear c50
                          by_cases c51 : x110_3 < (l0.length : Int)
                          · rw [if_pos c51] at H
                            have c51b0 : decide (x110_3 < (l0.length : Int)) = true := decide_eq_true c51
                            clear c51
                            replace H := Option.bind_eq_some_iff.mp H
                            obtain ⟨t256, A520, H⟩ := H
                            replace H : (if t256 = true then (dragomanlaw14_LexJoined.l3 k3 l0 t250 (l0.length : Int) (wrap64 (x110_3 + 1))) else (none)) = some r := H
                            have A52 := Aside0.mk A520
                            clear A520
                            by_cases c53 : t256 = true
                            · subst c53
                              have H1 : (dragomanlaw14_LexJoined.l3 k3 l0 t250 (l0.length : Int) (wrap64 (x110_3 + 1))) = some r := by rw [if_pos rfl] at H; exact H
                              clear H
                              have H := H1
                              clear H1
                              have H' := Aside0.mk H
                              clear H
                              obtain ⟨Ao54, co54, eo54⟩ := Kd.S_slice HO_11.out
                              subst eo54
                              have p254 : 0 ≤ (x110_3 : Int) := of_decide_eq_true (by first | (with_reducible assumption) | assumption)
                              have q254 : x110_3 < (t250.length : Int) := of_decide_eq_true (by first | (with_reducible assumption) | assumption)
                              obtain ⟨ad254, A254_0, c254_0, e254, hx254_0, hl254_0, hi254_0⟩ := at_L1 (Kd.S_reads' HO_11.out).2.2 x110_3 p254 q254
                              cases e254
                              obtain ⟨ce254, hce254, hMe254, hcc254⟩ := Kd.S_get HO_11.out [] x110_3 p254 (by first | exact q254 | exact of_decide_eq_true (by first | (with_reducible assumption) | assumption) | (have e_ := (Kd.S_reads' HO_11.out).1; omega))
                              obtain ⟨ve254_0, rfl, ge254_0⟩ := hMe254
                              have hv254_0 := hcc254 0 _ rfl
                              rw [Nat.add_zero, show ((Kd.slice 9 Kd.string)).sz = 1 from rfl, Nat.mul_one] at hv254_0
                              replace hv254_0 := Option.some.inj (hv254_0.symm.trans hx254_0)
                              rw [hv254_0] at ge254_0
                              have HL254_0 := Aside0.mk (show Kd.R Kd.string 9 _ _ _ _ (rd_L1 t250 x110_3) from ge254_0)
                              clear hv254_0 ge254_0
                              clear hcc254 hce254
                              have HR254_0 := Aside0.mk hi254_0
                              have HC254_0 := Aside0.mk hl254_0
                              clear hi254_0 hl254_0
                              replace p254 := eq_true p254
                              replace q254 := eq_true q254
                              have p255 : 0 ≤ (x110_3 : Int) := of_decide_eq_true (by first | (with_reducible assumption) | assumption)
                              have q255 : x110_3 < (l0.length : Int) := of_decide_eq_true (by first | (with_reducible assumption) | assumption)
                              obtain ⟨ad255, A255_0, c255_0, e255, hx255_0, hl255_0, hi255_0⟩ := at_L1 HR0.out x110_3 p255 q255
                              cases e255
                              replace hx255_0 := (HB.out.cell (World.block_lt_of_cell? w _ hx255_0)).trans hx255_0
                              have HR255_0 := Aside0.mk hi255_0
                              have HC255_0 := Aside0.mk hl255_0
                              clear hi255_0 hl255_0
                              replace p255 := eq_true p255
                              replace q255 := eq_true q255
                              go_wp2_with (first | (go_at_call 11; (with_reducible refine (dragomanref14_Strings.calls k3 _ _ (rd_L1 t250 x110_3) _ _ (rd_L1 l0 x110_3) true _ ?side1 ?side2 ?side3 ?side4 A52.out).mono ?_); (case side1 => repeat (first | exact (by repeat (first | (with_reducible exact HR254_0.out) | (with_reducible refine Kd.C_alloc ?_ _) | (with_reducible refine Kd.C_drewN ?_ _) | (with_reducible refine Kd.C_drew ?_) | exact HR254_0.out)) | (with_reducible refine Kd.C_alloc ?_ _) | (with_reducible refine Kd.C_drewN ?_ _) | (with_reducible refine Kd.C_drew ?_))); (case side2 => exact HC254_0.out); (case side3 => repeat (first | exact (Kd.C_below HR255_0.out HB.out) | (with_reducible refine Kd.C_alloc ?_ _) | (with_reducible refine Kd.C_drewN ?_ _) | (with_reducible refine Kd.C_drew ?_))); (case side4 => exact HC255_0.out); rintro e w' ⟨rfl, ⟨nd, rfl⟩⟩; (try first | exact ⟨rfl, _, World.drewN_drewN _ _ _⟩ | exact ⟨rfl, _, Eq.trans (World.drewN_drewN _ _ _) (congrArg (World.drewN _) (Nat.add_assoc _ _ _))⟩)))
                              repeat (go_quiet (first | (go_at_call 11; (with_reducible refine (dragomanref14_Strings.calls k3 _ _ (rd_L1 t250 x110_3) _ _ (rd_L1 l0 x110_3) true _ ?side1 ?side2 ?side3 ?side4 A52.out).mono ?_); (case side1 => repeat (first | exact (by repeat (first | (with_reducible exact HR254_0.out) | (with_reducible refine Kd.C_alloc ?_ _) | (with_reducible refine Kd.C_drewN ?_ _) | (with_reducible refine Kd.C_drew ?_) | exact HR254_0.out)) | (with_reducible refine Kd.C_alloc ?_ _) | (with_reducible refine Kd.C_drewN ?_ _) | (with_reducible refine Kd.C_drew ?_))); (case side2 => exact HC254_0.out); (case side3 => repeat (first | exact (Kd.C_below HR255_0.out HB.out) | (with_reducible refine Kd.C_alloc ?_ _) | (with_reducible refine Kd.C_drewN ?_ _) | (with_reducible refine Kd.C_drew ?_))); (case side4 => exact HC255_0.out); rintro e w' ⟨rfl, ⟨nd, rfl⟩⟩; (try first | exact ⟨rfl, _, World.drewN_drewN _ _ _⟩ | exact ⟨rfl, _, Eq.trans (World.drewN_drewN _ _ _) (congrArg (World.drewN _) (Nat.add_assoc _ _ _))⟩))); try go_wp2_with (first | (go_at_call 11; (with_reducible refine (dragomanref14_Strings.calls k3 _ _ (rd_L1 t250 x110_3) _ _ (rd_L1 l0 x110_3) true _ ?side1 ?side2 ?side3 ?side4 A52.out).mono ?_); (case side1 => repeat (first | exact (by repeat (first | (with_reducible exact HR254_0.out) | (with_reducible refine Kd.C_alloc ?_ _) | (with_reducible refine Kd.C_drewN ?_ _) | (with_reducible refine Kd.C_drew ?_) | exact HR254_0.out)) | (with_reducible refine Kd.C_alloc ?_ _) | (with_reducible refine Kd.C_drewN ?_ _) | (with_reducible refine Kd.C_drew ?_))); (case side2 => exact HC254_0.out); (case side3 => repeat (first | exact (Kd.C_below HR255_0.out HB.out) | (with_reducible refine Kd.C_alloc ?_ _) | (with_reducible refine Kd.C_drewN ?_ _) | (with_reducible refine Kd.C_drew ?_))); (case side4 => exact HC255_0.out); rintro e w' ⟨rfl, ⟨nd, rfl⟩⟩; (try first | exact ⟨rfl, _, World.drewN_drewN _ _ _⟩ | exact ⟨rfl, _, Eq.trans (World.drewN_drewN _ _ _) (congrArg (World.drewN _) (Nat.add_assoc _ _ _))⟩))))
                              go_roundg k3
                              case measure => have := HK1.out; have := HJ42.out; have := HK3.out; omega
                              case rel => exact ⟨(wrap64 (x110_3 + 1)), (by first | rfl | (simp; done) | (simp [*]; done)), H', ⟨by have := HK1.out; have := HJ42.out; have := HK3.out; omega⟩, ⟨by (with_reducible repeat (first | apply Kd.S_alloc | apply Kd.S_drewN | apply Kd.S_drew)); exact HO_11.out⟩, ⟨by repeat (first | (with_reducible first | exact HB.out | apply below_alloc | apply pw_below_drewN | apply below_drew1) | exact HB.out)⟩⟩
                            · replace c53 := Bool.eq_false_iff.mpr c53
                              subst c53
                              have H1 : (none) = some r := by rw [if_neg (show ¬ (false = true) by decide)] at H; exact H
                              clear H
                              have H := H1
                              clear H1
                              exact absurd H (by simp)
                          · rw [if_neg c51] at H
                            exact absurd H (by simp)
                        · rw [if_neg c50] at H
                          exact absurd H (by simp)
                      · rw [if_neg c49] at H
                        exact absurd H (by simp)
                    · rw [if_neg c48] at H
                      have c48b0 : decide (x110_3 < (l0.length : Int)) = false := decide_eq_false c48
                      clear c48
                      obtain rfl := Option.some.inj H
                      go_wp2
                      repeat (go_quiet (fail); try go_wp2)
                      first | go_ret | refine ⟨_, results_tmp rfl _ _ _, ?_⟩
                      exact ⟨by first | rfl | (simp [errW_none, errW_some] <;> rfl) | (simp [*, errW_none, errW_some] <;> rfl), by repeat (first | (with_reducible first | exact HB.out | apply below_alloc | apply pw_below_drewN | apply below_drew1) | exact HB.out)⟩
  · replace c4 := Bool.eq_false_iff.mpr c4
    subst c4
    have H1 : (none) = some r := by rw [if_neg (show ¬ (false = true) by decide)] at H; exact H
    clear H
    have H := H1
    clear H1
    exact absurd H (by simp)
end Go.Proofs.YtdnneofebehpaaaDoor.L
