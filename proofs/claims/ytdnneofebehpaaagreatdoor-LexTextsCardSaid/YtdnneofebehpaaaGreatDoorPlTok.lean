/- Tokens, plainly: one recursion over bytes; the library searches come to it; one step of each kind. -/
import Derived.Lib.IndexAny
import Derived.Lib.IndexBytes
import Derived.Lib.TrimAscii
import Derived.Lib.SlTrimSet
namespace Go.Proofs.YtdnneofebehpaaaGreatDoor.LexPlain
open Go.Lib
abbrev Tk := UInt8 × List UInt8
def blankB (b : UInt8) : Bool := [32, 9, 10].contains b
def signB (b : UInt8) : Bool := [123, 125, 91, 93, 59].contains b
def stopB (b : UInt8) : Bool := [32, 9, 10, 123, 125, 91, 93, 59, 34, 35].contains b
def quoteB (b : UInt8) : Bool := [34, 10].contains b
def endC : List UInt8 → Option (List UInt8)
  | [] => none
  | b :: r => if b = 42 ∧ r.head? = some 47 then some (r.drop 1) else endC r
theorem endC_len : ∀ {s r : List UInt8}, endC s = some r → r.length < s.length := by
  intro s
  induction s with
  | nil => intro r h; simp [endC] at h
  | cons b l ih =>
    intro r h
    rw [endC] at h
    split at h
    · injection h with h; subst h; simp; omega
    · have := ih h; simp only [List.length_cons]; omega
def lexF : Nat → List UInt8 → Option (List Tk)
  | 0, _ => none
  | _ + 1, [] => some []
  | n + 1, b :: r =>
    if blankB b then lexF n r
    else if b = 35 then lexF n (r.dropWhile (fun c => !(c == 10)))
    else if b = 47 ∧ r.head? = some 42 then (endC (r.drop 1)).bind (lexF n)
    else if b = 34 then (match r.dropWhile (fun c => !quoteB c) with
      | [] => none
      | c :: r' => if c = 10 then none else (lexF n r').map ((113, r.takeWhile (fun c => !quoteB c)) :: ·))
    else if signB b then (lexF n r).map ((b, [b]) :: ·)
    else (lexF n (r.dropWhile (fun c => !stopB c))).map ((119, b :: r.takeWhile (fun c => !stopB c)) :: ·)
theorem dropWhile_le (p : UInt8 → Bool) (l : List UInt8) : (l.dropWhile p).length ≤ l.length := by
  induction l with
  | nil => simp
  | cons b l ih => rw [List.dropWhile_cons]; split; simp only [List.length_cons]; omega; exact Nat.le_refl _
theorem lexF_stable : ∀ (n m : Nat) (s : List UInt8), s.length < n → s.length < m → lexF n s = lexF m s := by
  intro n
  induction n with
  | zero => intro m s h; omega
  | succ n ih =>
    intro m s h h'
    obtain ⟨m, rfl⟩ : ∃ k, m = k + 1 := ⟨m - 1, by omega⟩
    cases s with
    | nil => rfl
    | cons b r =>
      simp only [List.length_cons] at h h'
      have e : ∀ x : List UInt8, x.length ≤ r.length → lexF n x = lexF m x := fun x hx => ih m x (by omega) (by omega)
      rw [lexF, lexF, e r (Nat.le_refl _), e _ (dropWhile_le _ _), e _ (dropWhile_le _ _)]
      have e2 : (endC (r.drop 1)).bind (lexF n) = (endC (r.drop 1)).bind (lexF m) := by
        cases q : endC (r.drop 1) with
        | none => rfl
        | some x => exact e x (by have := endC_len q; simp only [List.length_drop] at this; omega)
      rw [e2]
      have e3 : ∀ (c : UInt8) (r' : List UInt8), r.dropWhile (fun c => !quoteB c) = c :: r' → lexF n r' = lexF m r' := by
        intro c r' q
        have := dropWhile_le (fun c => !quoteB c) r
        rw [q] at this
        simp only [List.length_cons] at this
        exact e r' (by omega)
      cases q : r.dropWhile (fun c => !quoteB c) with
      | nil => rfl
      | cons c r' => simp only [e3 c r' q]
def lexL (s : List UInt8) : Option (List Tk) := lexF (s.length + 1) s
theorem lexL_nil : lexL [] = some [] := rfl
theorem lexF_L {n : Nat} {s : List UInt8} (h : s.length < n) : lexF n s = lexL s := lexF_stable n _ s h (Nat.lt_succ_self _)
theorem lexL_cons (b : UInt8) (r : List UInt8) : lexL (b :: r) =
    if blankB b then lexL r
    else if b = 35 then lexL (r.dropWhile (fun c => !(c == 10)))
    else if b = 47 ∧ r.head? = some 42 then (endC (r.drop 1)).bind lexL
    else if b = 34 then (match r.dropWhile (fun c => !quoteB c) with
      | [] => none
      | c :: r' => if c = 10 then none else (lexL r').map ((113, r.takeWhile (fun c => !quoteB c)) :: ·))
    else if signB b then (lexL r).map ((b, [b]) :: ·)
    else (lexL (r.dropWhile (fun c => !stopB c))).map ((119, b :: r.takeWhile (fun c => !stopB c)) :: ·) := by
  show lexF (r.length + 1 + 1) (b :: r) = _
  have e : ∀ x : List UInt8, x.length ≤ r.length → lexF (r.length + 1) x = lexL x := fun x hx => lexF_L (by omega)
  rw [lexF, e r (Nat.le_refl _), e _ (dropWhile_le _ _), e _ (dropWhile_le _ _)]
  have e2 : (endC (r.drop 1)).bind (lexF (r.length + 1)) = (endC (r.drop 1)).bind lexL := by
    cases q : endC (r.drop 1) with
    | none => rfl
    | some x => exact e x (by have := endC_len q; simp only [List.length_drop] at this; omega)
  rw [e2]
  have e3 : ∀ (c : UInt8) (r' : List UInt8), r.dropWhile (fun c => !quoteB c) = c :: r' → lexF (r.length + 1) r' = lexL r' := by
    intro c r' q
    have := dropWhile_le (fun c => !quoteB c) r
    rw [q] at this
    simp only [List.length_cons] at this
    exact e r' (by omega)
  cases q : r.dropWhile (fun c => !quoteB c) with
  | nil => rfl
  | cons c r' => simp only [e3 c r' q]
theorem lexL_blanks (s : List UInt8) : lexL (s.dropWhile blankB) = lexL s := by
  induction s with
  | nil => rfl
  | cons b r ih =>
    rw [List.dropWhile_cons]
    by_cases h : blankB b = true
    · rw [if_pos h, ih, lexL_cons, if_pos h]
    · rw [if_neg h]
theorem indexAny_eq (cs : List UInt8) (l : List UInt8) : (indexAny l cs = -1 ∧ l.dropWhile (fun c => !cs.contains c) = [] ∧ l.takeWhile (fun c => !cs.contains c) = l) ∨
    ∃ i : Nat, indexAny l cs = i ∧ i < l.length ∧ l.takeWhile (fun c => !cs.contains c) = l.take i ∧ l.dropWhile (fun c => !cs.contains c) = l.drop i ∧ ∃ c r, l.drop i = c :: r ∧ cs.contains c = true := by
  induction l with
  | nil => exact Or.inl ⟨rfl, rfl, rfl⟩
  | cons b l ih =>
    by_cases h : cs.contains b = true
    · refine Or.inr ⟨0, by rw [indexAny, if_pos h]; rfl, by simp, ?_, ?_, b, l, rfl, h⟩
      · rw [List.takeWhile_cons, h]; rfl
      · rw [List.dropWhile_cons, h]; rfl
    · have hf : cs.contains b = false := by simpa using h
      rcases ih with ⟨h1, h2, h3⟩ | ⟨i, h1, hi, h2, h3, h4⟩
      · refine Or.inl ⟨by rw [indexAny, if_neg h, h1]; rfl, ?_, ?_⟩
        · rw [List.dropWhile_cons, hf]; simpa using h2
        · rw [List.takeWhile_cons, hf]; simpa using h3
      · refine Or.inr ⟨i + 1, ?_, by simp; omega, ?_, ?_, h4⟩
        · have g : ¬ (indexAny l cs == -1) = true := by rw [h1]; simp
          rw [indexAny, if_neg h, if_neg g, h1]; rfl
        · rw [List.takeWhile_cons, hf]; simpa using h2
        · rw [List.dropWhile_cons, hf]; simpa using h3
theorem indexByte_eq (c : UInt8) (l : List UInt8) : (indexByte l c = -1 ∧ l.dropWhile (fun x => !(x == c)) = []) ∨ ∃ i : Nat, indexByte l c = i ∧ i < l.length ∧ l.dropWhile (fun x => !(x == c)) = l.drop i := by
  induction l with
  | nil => exact Or.inl ⟨rfl, rfl⟩
  | cons b l ih =>
    by_cases h : (b == c) = true
    · exact Or.inr ⟨0, by rw [indexByte, if_pos h]; rfl, by simp, by rw [List.dropWhile_cons, h]; rfl⟩
    · have hf : (b == c) = false := by simpa using h
      rcases ih with ⟨h1, h2⟩ | ⟨i, h1, hi, h2⟩
      · exact Or.inl ⟨by rw [indexByte, if_neg h, h1]; rfl, by rw [List.dropWhile_cons, hf]; simpa using h2⟩
      · refine Or.inr ⟨i + 1, ?_, by simp; omega, by rw [List.dropWhile_cons, hf]; simpa using h2⟩
        have g : ¬ (indexByte l c == -1) = true := by rw [h1]; simp
        rw [indexByte, if_neg h, if_neg g, h1]; rfl
theorem index_end (l : List UInt8) : (index l [42, 47] = -1 ∧ endC l = none) ∨ ∃ i : Nat, index l [42, 47] = i ∧ i + 2 ≤ l.length ∧ endC l = some (l.drop (i + 2)) := by
  induction l with
  | nil => exact Or.inl ⟨rfl, rfl⟩
  | cons b l ih =>
    by_cases h : b = 42 ∧ l.head? = some 47
    · obtain ⟨rfl, h⟩ := h
      cases l with
      | nil => simp at h
      | cons c l =>
        simp only [List.head?_cons, Option.some.injEq] at h
        subst h
        exact Or.inr ⟨0, by rw [index, if_pos (by rfl)]; rfl, by simp, by rw [endC, if_pos ⟨rfl, rfl⟩]; rfl⟩
    · have hp : ¬ ([42, 47] : List UInt8).isPrefixOf (b :: l) = true := by
        intro q
        apply h
        cases l with
        | nil => simp [List.isPrefixOf] at q
        | cons c l =>
          simp only [List.isPrefixOf, Bool.and_true, Bool.and_eq_true, beq_iff_eq] at q
          exact ⟨q.1.symm, by rw [List.head?_cons, q.2]⟩
      rcases ih with ⟨h1, h2⟩ | ⟨i, h1, hi, h2⟩
      · exact Or.inl ⟨by rw [index, if_neg hp, h1]; rfl, by rw [endC, if_neg h, h2]⟩
      · refine Or.inr ⟨i + 1, ?_, by simp; omega, by rw [endC, if_neg h, h2]; rfl⟩
        have g : ¬ (index l [42, 47] == -1) = true := by rw [h1]; simp
        rw [index, if_neg hp, if_neg g, h1]; rfl
end Go.Proofs.YtdnneofebehpaaaGreatDoor.LexPlain
