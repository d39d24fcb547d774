/- Lines, plainly: pieces, words, and words put together. -/
import Derived.Lib.Split
import Derived.Lib.SplitLaws
import Derived.Lib.Fields
import Derived.Lib.IndexBytes
namespace Go.Proofs.YtdnneofebehpaaaGreatDoor.LexPlain
open Go.Lib
def pcs (p : UInt8 → Bool) : List UInt8 → List UInt8 → List (List UInt8)
  | cur, [] => [cur]
  | cur, b :: l => if p b then cur :: pcs p [] l else pcs p (cur ++ [b]) l
theorem pcs_ne (p : UInt8 → Bool) (cur s : List UInt8) : pcs p cur s ≠ [] := by
  induction s generalizing cur with
  | nil => simp [pcs]
  | cons b l ih => rw [pcs]; split; exact List.cons_ne_nil _ _; exact ih _
theorem splitK_cons_ne (c b : UInt8) (h : b ≠ c) (l : List UInt8) (k : Nat) : ∃ x xs, splitK [c] 0 k l = x :: xs ∧ splitK [c] 0 k (b :: l) = (b :: x) :: xs := by
  cases k with
  | zero => exact ⟨l, [], rfl, rfl⟩
  | succ k =>
    have e : index (b :: l) [c] = if index l [c] == -1 then -1 else index l [c] + 1 := by
      rw [index_one, index_one, indexByte, if_neg (by simpa using h)]
    have hge := index_ge l [c]
    by_cases g : index l [c] = -1
    · refine ⟨l, [], ?_, ?_⟩
      · rw [splitK, if_pos (by rw [g]; rfl)]
      · rw [splitK, if_pos (by rw [e, g]; rfl)]
    · have g1 : ¬ (index l [c] == -1) = true := by simpa using g
      have g2 : index (b :: l) [c] = index l [c] + 1 := by rw [e, if_neg g1]
      have g3 : ¬ (index (b :: l) [c] == -1) = true := by rw [g2]; simp; omega
      have n : (index l [c] + 1).toNat = (index l [c]).toNat + 1 := by omega
      refine ⟨_, _, by rw [splitK, if_neg g1], ?_⟩
      rw [splitK, if_neg g3, g2, n]
      simp
theorem splitK_cons_eq (c : UInt8) (l : List UInt8) (k : Nat) : splitK [c] 0 (k + 1) (c :: l) = [] :: splitK [c] 0 k l := by
  have e : index (c :: l) [c] = 0 := by rw [index_one, indexByte, if_pos (by simp)]
  rw [splitK, if_neg (by rw [e]; decide), e]
  simp
theorem pcs_cur (p : UInt8 → Bool) (s : List UInt8) : ∀ cur : List UInt8, ∃ x xs, pcs p [] s = x :: xs ∧ pcs p cur s = (cur ++ x) :: xs := by
  induction s with
  | nil => intro cur; exact ⟨[], [], rfl, by simp [pcs]⟩
  | cons b l ih =>
    intro cur
    by_cases h : p b = true
    · exact ⟨[], pcs p [] l, by rw [pcs, if_pos h], by rw [pcs, if_pos h, List.append_nil]⟩
    · obtain ⟨x, xs, e1, e2⟩ := ih [b]
      obtain ⟨x', xs', e3, e4⟩ := ih (cur ++ [b])
      rw [e1] at e3
      injection e3 with e5 e6
      subst e5 e6
      exact ⟨[b] ++ x, xs, by rw [pcs, if_neg h, List.nil_append]; exact e2, by rw [pcs, if_neg h, e4]; simp⟩
theorem split_one (c : UInt8) (s : List UInt8) : split s [c] = pcs (fun b => b == c) [] s := by
  unfold split
  rw [count_one]
  induction s with
  | nil => rfl
  | cons b l ih =>
    by_cases h : b = c
    · subst h
      rw [List.count_cons_self, splitK_cons_eq, ih, pcs, if_pos (by simp)]
    · have h' : ¬ (b == c) = true := by simpa using h
      rw [List.count_cons_of_ne h]
      obtain ⟨x, xs, e1, e2⟩ := splitK_cons_ne c b h l (l.count c)
      rw [e2, pcs, if_neg h', List.nil_append]
      rw [ih] at e1
      obtain ⟨y, ys, e3, e4⟩ := pcs_cur (fun b => b == c) l [b]
      rw [e1] at e3
      injection e3 with e5 e6
      subst e5 e6
      rw [e4]
      rfl
theorem fields_pcs (q : UInt8 → Bool) (s : List UInt8) (h : ∀ b ∈ s, isSp b = q b) (cur : List UInt8) : fieldsGo cur s = (pcs q cur s).filter (fun x => !x.isEmpty) := by
  induction s generalizing cur with
  | nil =>
    rw [fieldsGo, pcs]
    cases cur <;> rfl
  | cons b l ih =>
    have hb := h b (by simp)
    have ih' := ih (fun x hx => h x (by simp [hx]))
    rw [fieldsGo, pcs, hb]
    by_cases g : q b = true
    · rw [if_pos g, if_pos g, List.filter_cons]
      cases cur with
      | nil => simp [ih']
      | cons x xs => simp [ih']
    · rw [if_neg g, if_neg g]
      exact ih' _
open Go.Lib
def mayB (b : UInt8) : Bool := (decide (32 ≤ b.toNat) && decide (b.toNat ≤ 126)) || b == 9 || b == 10
def wordB (b : UInt8) : Bool := b == 32 || b == 9
theorem pcs_mem (p : UInt8 → Bool) (s : List UInt8) : ∀ (cur x : List UInt8), x ∈ pcs p cur s → ∀ b ∈ x, b ∈ cur ∨ (b ∈ s ∧ p b = false) := by
  induction s with
  | nil =>
    intro cur x hx b hb
    rw [pcs, List.mem_singleton] at hx
    subst hx
    exact Or.inl hb
  | cons c l ih =>
    intro cur x hx b hb
    rw [pcs] at hx
    by_cases h : p c = true
    · rw [if_pos h] at hx
      rcases List.mem_cons.1 hx with rfl | hx
      · exact Or.inl hb
      · rcases ih [] x hx b hb with h1 | ⟨h1, h2⟩
        · simp at h1
        · exact Or.inr ⟨List.mem_cons_of_mem _ h1, h2⟩
    · rw [if_neg h] at hx
      rcases ih (cur ++ [c]) x hx b hb with h1 | ⟨h1, h2⟩
      · rcases List.mem_append.1 h1 with h1 | h1
        · exact Or.inl h1
        · rw [List.mem_singleton] at h1
          subst h1
          exact Or.inr ⟨List.mem_cons_self, by simpa using h⟩
      · exact Or.inr ⟨List.mem_cons_of_mem _ h1, h2⟩
theorem sp_word {b : UInt8} (h : mayB b = true) (h10 : b ≠ 10) : isSp b = wordB b := by
  unfold mayB at h
  unfold isSp wordB
  have e : ∀ n : UInt8, (b == n) = decide (b.toNat = n.toNat) := by
    intro n
    rw [Bool.eq_iff_iff, beq_iff_eq, decide_eq_true_iff]
    exact ⟨fun q => by rw [q], fun q => UInt8.toNat_inj.1 q⟩
  have q10 : b.toNat ≠ 10 := fun q => h10 (UInt8.toNat_inj.1 q)
  simp only [e, Bool.or_eq_true, Bool.and_eq_true, decide_eq_true_eq] at h ⊢
  rw [Bool.eq_iff_iff]
  simp only [Bool.or_eq_true, decide_eq_true_eq, show (9 : UInt8).toNat = 9 from rfl, show (10 : UInt8).toNat = 10 from rfl, show (11 : UInt8).toNat = 11 from rfl, show (12 : UInt8).toNat = 12 from rfl, show (13 : UInt8).toNat = 13 from rfl, show (32 : UInt8).toNat = 32 from rfl] at h ⊢
  omega
theorem words_line {s x : List UInt8} (hs : ∀ b ∈ s, mayB b = true) (hx : x ∈ split s [10]) : fields x = (pcs wordB [] x).filter (fun w => !w.isEmpty) := by
  rw [split_one] at hx
  refine fields_pcs wordB x (fun b hb => ?_) []
  rcases pcs_mem _ s [] x hx b hb with h | ⟨h1, h2⟩
  · simp at h
  · exact sp_word (hs b h1) (by intro q; rw [q] at h2; simp at h2)
def nlB (b : UInt8) : Bool := b == 10
def keptW (ws : List (List UInt8)) : Bool := match ws with
  | [] => false
  | w :: _ => !(w.head? == some 33)
def wordsL (x : List UInt8) : List (List UInt8) := (pcs wordB [] x).filter (fun w => !w.isEmpty)
def linesL (s : List UInt8) : List (List (List UInt8)) := ((pcs nlB [] s).map wordsL).filter keptW
end Go.Proofs.YtdnneofebehpaaaGreatDoor.LexPlain
