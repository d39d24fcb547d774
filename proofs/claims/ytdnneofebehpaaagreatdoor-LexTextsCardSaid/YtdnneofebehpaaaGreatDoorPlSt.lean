/- Tokens, plainly: one step of each kind. -/
import Derived.Test.YtdnneofebehpaaaGreatDoorPlTok
namespace Go.Proofs.YtdnneofebehpaaaGreatDoor.LexPlain
open Go.Lib
theorem stop_of {b : UInt8} (h1 : blankB b = false) (h2 : b ≠ 35) (h4 : b ≠ 34) (h5 : signB b = false) : stopB b = false := by
  unfold blankB at h1
  unfold signB at h5
  unfold stopB
  simp only [List.contains_cons, List.contains_nil, Bool.or_false, Bool.or_eq_false_iff, beq_eq_false_iff_ne, ne_eq] at h1 h5 ⊢
  exact ⟨h1.1, h1.2.1, h1.2.2, h5.1, h5.2.1, h5.2.2.1, h5.2.2.2.1, h5.2.2.2.2, h4, h2⟩
theorem lex_word {b : UInt8} {r : List UInt8} (h1 : blankB b = false) (h2 : b ≠ 35) (h3 : ¬ (b = 47 ∧ r.head? = some 42)) (h4 : b ≠ 34) (h5 : signB b = false) :
    (indexAny (b :: r) [32, 9, 10, 123, 125, 91, 93, 59, 34, 35] = -1 ∧ lexL (b :: r) = some [(119, b :: r)]) ∨
    ∃ j : Nat, indexAny (b :: r) [32, 9, 10, 123, 125, 91, 93, 59, 34, 35] = j ∧ 1 ≤ j ∧ j < (b :: r).length ∧ lexL (b :: r) = (lexL ((b :: r).drop j)).map ((119, (b :: r).take j) :: ·) := by
  have hs := stop_of h1 h2 h4 h5
  have hs' : (!stopB b) = true := by rw [hs]; rfl
  have e : lexL (b :: r) = (lexL ((b :: r).dropWhile (fun c => !stopB c))).map ((119, (b :: r).takeWhile (fun c => !stopB c)) :: ·) := by
    rw [lexL_cons, if_neg (by rw [h1]; decide), if_neg h2, if_neg h3, if_neg h4, if_neg (by rw [h5]; decide), List.dropWhile_cons, if_pos hs', List.takeWhile_cons, hs]
    rfl
  rcases indexAny_eq [32, 9, 10, 123, 125, 91, 93, 59, 34, 35] (b :: r) with ⟨q1, q2, q3⟩ | ⟨j, q1, q2, q3, q4, c, s, q5, q6⟩
  · refine Or.inl ⟨q1, ?_⟩
    rw [e]
    show (lexL ((b :: r).dropWhile (fun c => !([32, 9, 10, 123, 125, 91, 93, 59, 34, 35] : List UInt8).contains c))).map ((119, (b :: r).takeWhile (fun c => !([32, 9, 10, 123, 125, 91, 93, 59, 34, 35] : List UInt8).contains c)) :: ·) = _
    rw [q2, q3, lexL_nil]
    rfl
  · refine Or.inr ⟨j, q1, ?_, q2, ?_⟩
    · apply Nat.pos_of_ne_zero
      intro q
      subst q
      rw [List.drop_zero] at q5
      injection q5 with q7 q8
      subst q7
      have : stopB b = true := q6
      rw [hs] at this
      exact absurd this (by decide)
    · rw [e]
      show (lexL ((b :: r).dropWhile (fun c => !([32, 9, 10, 123, 125, 91, 93, 59, 34, 35] : List UInt8).contains c))).map ((119, (b :: r).takeWhile (fun c => !([32, 9, 10, 123, 125, 91, 93, 59, 34, 35] : List UInt8).contains c)) :: ·) = _
      rw [q3, q4]
theorem lex_sign {b : UInt8} {r : List UInt8} (h1 : blankB b = false) (h2 : b ≠ 35) (h3 : ¬ (b = 47 ∧ r.head? = some 42)) (h4 : b ≠ 34) (h5 : signB b = true) : lexL (b :: r) = (lexL r).map ((b, [b]) :: ·) := by
  rw [lexL_cons, if_neg (by rw [h1]; decide), if_neg h2, if_neg h3, if_neg h4, if_pos h5]
theorem lex_note (r : List UInt8) : (indexByte (35 :: r) 10 = -1 ∧ lexL (35 :: r) = some []) ∨ ∃ j : Nat, indexByte (35 :: r) 10 = j ∧ 1 ≤ j ∧ j < (35 :: r).length ∧ lexL (35 :: r) = lexL ((35 :: r).drop j) := by
  have e : lexL (35 :: r) = lexL (((35 : UInt8) :: r).dropWhile (fun c => !(c == 10))) := by
    rw [lexL_cons, if_neg (by decide), if_pos rfl, List.dropWhile_cons, if_pos (by decide)]
  rcases indexByte_eq 10 (35 :: r) with ⟨q1, q2⟩ | ⟨j, q1, q2, q3⟩
  · exact Or.inl ⟨q1, by rw [e, q2, lexL_nil]⟩
  · refine Or.inr ⟨j, q1, ?_, q2, by rw [e, q3]⟩
    apply Nat.pos_of_ne_zero
    intro q
    subst q
    rw [indexByte, if_neg (by decide)] at q1
    have := indexByte_ge r 10
    by_cases g : (indexByte r 10 == -1) = true
    · rw [if_pos g] at q1
      omega
    · rw [if_neg g] at q1
      have g' : indexByte r 10 ≠ -1 := by simpa using g
      omega
theorem lex_comment (r : List UInt8) : (index r [42, 47] = -1 ∧ lexL (47 :: 42 :: r) = none) ∨ ∃ j : Nat, index r [42, 47] = j ∧ j + 2 ≤ r.length ∧ lexL (47 :: 42 :: r) = lexL (r.drop (j + 2)) := by
  have e : lexL (47 :: 42 :: r) = (endC r).bind lexL := by
    rw [lexL_cons, if_neg (by decide), if_neg (by decide), if_pos ⟨rfl, rfl⟩]
    rfl
  rcases index_end r with ⟨q1, q2⟩ | ⟨j, q1, q2, q3⟩
  · exact Or.inl ⟨q1, by rw [e, q2]; rfl⟩
  · exact Or.inr ⟨j, q1, q2, by rw [e, q3]; rfl⟩
theorem lex_quote (r : List UInt8) : (indexAny r [34, 10] = -1 ∧ lexL (34 :: r) = none) ∨ ∃ j : Nat, indexAny r [34, 10] = j ∧ j < r.length ∧ ∃ c s, r.drop j = c :: s ∧ (c = 10 → lexL (34 :: r) = none) ∧ (c ≠ 10 → lexL (34 :: r) = (lexL (r.drop (j + 1))).map ((113, r.take j) :: ·)) := by
  have e : lexL (34 :: r) = (match r.dropWhile (fun c => !quoteB c) with
      | [] => none
      | c :: r' => if c = 10 then none else (lexL r').map ((113, r.takeWhile (fun c => !quoteB c)) :: ·)) := by
    rw [lexL_cons, if_neg (by decide), if_neg (by decide), if_neg (by rintro ⟨q, _⟩; exact absurd q (by decide)), if_pos rfl]
    rfl
  rcases indexAny_eq [34, 10] r with ⟨q1, q2, q3⟩ | ⟨j, q1, q2, q3, q4, c, s, q5, q6⟩
  · refine Or.inl ⟨q1, ?_⟩
    have q2' : r.dropWhile (fun c => !quoteB c) = [] := q2
    rw [e, q2']
  · have q4' : r.dropWhile (fun c => !quoteB c) = c :: s := q4.trans q5
    have q3' : r.takeWhile (fun c => !quoteB c) = r.take j := q3
    have q7 : r.drop (j + 1) = s := by
      rw [← List.drop_drop, q5]
      rfl
    refine Or.inr ⟨j, q1, q2, c, s, q5, fun hc => ?_, fun hc => ?_⟩
    · rw [e, q4']; exact if_pos hc
    · rw [e, q4', q3', q7]; exact if_neg hc
end Go.Proofs.YtdnneofebehpaaaGreatDoor.LexPlain
