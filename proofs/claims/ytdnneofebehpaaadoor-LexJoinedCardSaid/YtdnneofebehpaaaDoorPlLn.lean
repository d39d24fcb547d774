/- Lines, plainly: pieces, words, and words put together. -/
import Derived.Lib.Split
import Derived.Lib.SplitLaws
import Derived.Lib.Fields
import Derived.Lib.IndexBytes
namespace Go.Proofs.YtdnneofebehpaaaDoor.LexPlain
open Go.Lib
def pcs (p : UInt8 → Bool) : List UInt8 → List UInt8 → List (List UInt8)
  | cur, [] => [cur]
  | cur, b :: l => if p b then cur :: pcs p [] l else pcs p (cur ++ [b]) l
theorem splitK_cons_ne (c b : UInt8) (h : b ≠ c) (l : List UInt8) (k : Nat) : ∃ x xs, splitK [c] 0 k l = x :: xs ∧ splitK [c] 0 k (b :: l) = (b :: x) :: xs := by
  cases k with
  | zero => exact ⟨l, [], rfl, rfl⟩
  | succ k =>
    have e : index (b :: l) [c] = if index l [c] == -1 then -1 else index l [c] + 1 := by
      rw [index_one, index_one, indexByte, if_neg (by simpa using h)]
    have hge := index_ge l [c]
    by_cases g : index l [c] = -1
    · refine ⟨l, [], ?_, ?_⟩
      · rw [splitK, if_pos (by rw [g]; rfl)]
      · rw [splitK, if_pos (by rw [e, g]; rfl)]
    · have g1 : ¬ (index l [c] == -1) = true := by simpa using g
      have g2 : index (b :: l) [c] = index l [c] + 1 := by rw [e, if_neg g1]
      have g3 : ¬ (index (b :: l) [c] == -1) = true := by rw [g2]; simp; omega
      have n : (index l [c] + 1).toNat = (index l [c]).toNat + 1 := by omega
      refine ⟨_, _, by rw [splitK, if_neg g1], ?_⟩
      rw [splitK, if_neg g3, g2, n]
      simp
theorem splitK_cons_eq (c : UInt8) (l : List UInt8) (k : Nat) : splitK [c] 0 (k + 1) (c :: l) = [] :: splitK [c] 0 k l := by
  have e : index (c :: l) [c] = 0 := by rw [index_one, indexByte, if_pos (by simp)]
  rw [splitK, if_neg (by rw [e]; decide), e]
  simp
theorem pcs_cur (p : UInt8 → Bool) (s : List UInt8) : ∀ cur : List UInt8, ∃ x xs, pcs p [] s = x :: xs ∧ pcs p cur s = (cur ++ x) :: xs := by
  induction s with
  | nil => intro cur; exact ⟨[], [], rfl, by simp [pcs]⟩
  | cons b l ih =>
    intro cur
    by_cases h : p b = true
    · exact ⟨[], pcs p [] l, by rw [pcs, if_pos h], by rw [pcs, if_pos h, List.append_nil]⟩
    · obtain ⟨x, xs, e1, e2⟩ := ih [b]
      obtain ⟨x', xs', e3, e4⟩ := ih (cur ++ [b])
      rw [e1] at e3
      injection e3 with e5 e6
      subst e5 e6
      exact ⟨[b] ++ x, xs, by rw [pcs, if_neg h, List.nil_append]; exact e2, by rw [pcs, if_neg h, e4]; simp⟩
theorem split_one (c : UInt8) (s : List UInt8) : split s [c] = pcs (fun b => b == c) [] s := by
  unfold split
  rw [count_one]
  induction s with
  | nil => rfl
  | cons b l ih =>
    by_cases h : b = c
    · subst h
      rw [List.count_cons_self, splitK_cons_eq, ih, pcs, if_pos (by simp)]
    · have h' : ¬ (b == c) = true := by simpa using h
      rw [List.count_cons_of_ne h]
      obtain ⟨x, xs, e1, e2⟩ := splitK_cons_ne c b h l (l.count c)
      rw [e2, pcs, if_neg h', List.nil_append]
      rw [ih] at e1
      obtain ⟨y, ys, e3, e4⟩ := pcs_cur (fun b => b == c) l [b]
      rw [e1] at e3
      injection e3 with e5 e6
      subst e5 e6
      rw [e4]
      rfl
theorem fields_pcs (q : UInt8 → Bool) (s : List UInt8) (h : ∀ b ∈ s, isSp b = q b) (cur : List UInt8) : fieldsGo cur s = (pcs q cur s).filter (fun x => !x.isEmpty) := by
  induction s generalizing cur with
  | nil =>
    rw [fieldsGo, pcs]
    cases cur <;> rfl
  | cons b l ih =>
    have hb := h b (by simp)
    have ih' := ih (fun x hx => h x (by simp [hx]))
    rw [fieldsGo, pcs, hb]
    by_cases g : q b = true
    · rw [if_pos g, if_pos g, List.filter_cons]
      cases cur with
      | nil => simp [ih']
      | cons x xs => simp [ih']
    · rw [if_neg g, if_neg g]
      exact ih' _
open Go.Lib
def mayB (b : UInt8) : Bool := (decide (32 ≤ b.toNat) && decide (b.toNat ≤ 126)) || b == 9 || b == 10
def wordB (b : UInt8) : Bool := b == 32 || b == 9
theorem pcs_mem (p : UInt8 → Bool) (s : List UInt8) : ∀ (cur x : List UInt8), x ∈ pcs p cur s → ∀ b ∈ x, b ∈ cur ∨ (b ∈ s ∧ p b = false) := by
  induction s with
  | nil =>
    intro cur x hx b hb
    rw [pcs, List.mem_singleton] at hx
    subst hx
    exact Or.inl hb
  | cons c l ih =>
    intro cur x hx b hb
    rw [pcs] at hx
    by_cases h : p c = true
    · rw [if_pos h] at hx
      rcases List.mem_cons.1 hx with rfl | hx
      · exact Or.inl hb
      · rcases ih [] x hx b hb with h1 | ⟨h1, h2⟩
        · simp at h1
        · exact Or.inr ⟨List.mem_cons_of_mem _ h1, h2⟩
    · rw [if_neg h] at hx
      rcases ih (cur ++ [c]) x hx b hb with h1 | ⟨h1, h2⟩
      · rcases List.mem_append.1 h1 with h1 | h1
        · exact Or.inl h1
        · rw [List.mem_singleton] at h1
          subst h1
          exact Or.inr ⟨List.mem_cons_self, by simpa using h⟩
      · exact Or.inr ⟨List.mem_cons_of_mem _ h1, h2⟩
theorem sp_word {b : UInt8} (h : mayB b = true) (h10 : b ≠ 10) : isSp b = wordB b := by
  unfold mayB at h
  unfold isSp wordB
  have e : ∀ n : UInt8, (b == n) = decide (b.toNat = n.toNat) := by
    intro n
    rw [Bool.eq_iff_iff, beq_iff_eq, decide_eq_true_iff]
    exact ⟨fun q => by rw [q], fun q => UInt8.toNat_inj.1 q⟩
  have q10 : b.toNat ≠ 10 := fun q => h10 (UInt8.toNat_inj.1 q)
  simp only [e, Bool.or_eq_true, Bool.and_eq_true, decide_eq_true_eq] at h ⊢
  rw [Bool.eq_iff_iff]
  simp only [Bool.or_eq_true, decide_eq_true_eq, show (9 : UInt8).toNat = 9 from rfl, show (10 : UInt8).toNat = 10 from rfl, show (11 : UInt8).toNat = 11 from rfl, show (12 : UInt8).toNat = 12 from rfl, show (13 : UInt8).toNat = 13 from rfl, show (32 : UInt8).toNat = 32 from rfl] at h ⊢
  omega
theorem words_line {s x : List UInt8} (hs : ∀ b ∈ s, mayB b = true) (hx : x ∈ split s [10]) : fields x = (pcs wordB [] x).filter (fun w => !w.isEmpty) := by
  rw [split_one] at hx
  refine fields_pcs wordB x (fun b hb => ?_) []
  rcases pcs_mem _ s [] x hx b hb with h | ⟨h1, h2⟩
  · simp at h
  · exact sp_word (hs b h1) (by intro q; rw [q] at h2; simp at h2)
def nlB (b : UInt8) : Bool := b == 10
def keptW (ws : List (List UInt8)) : Bool := match ws with
  | [] => false
  | w :: _ => !(w.head? == some 33)
def wordsL (x : List UInt8) : List (List UInt8) := (pcs wordB [] x).filter (fun w => !w.isEmpty)
def linesL (s : List UInt8) : List (List (List UInt8)) := ((pcs nlB [] s).map wordsL).filter keptW
theorem pcs_skip {p : UInt8 → Bool} : ∀ (x : List UInt8) (cur r : List UInt8), (∀ b ∈ x, p b = false) → pcs p cur (x ++ r) = pcs p (cur ++ x) r
  | [], cur, r, _ => by simp
  | b :: x, cur, r, h => by
    rw [List.cons_append, pcs, if_neg (by simp [h b (by simp)]), pcs_skip x _ r (fun c hc => h c (by simp [hc]))]
    simp
theorem pcs_cut {p : UInt8 → Bool} (x r : List UInt8) (c : UInt8) (h : ∀ b ∈ x, p b = false) (hc : p c = true) : pcs p [] (x ++ c :: r) = x :: pcs p [] r := by
  rw [pcs_skip x [] _ h, List.nil_append, pcs, if_pos hc]
theorem lines_cut (x r : List UInt8) (h : ∀ b ∈ x, nlB b = false) : linesL (x ++ 10 :: r) = (if keptW (wordsL x) then [wordsL x] else []) ++ linesL r := by
  unfold linesL
  rw [pcs_cut x r 10 h rfl, List.map_cons, List.filter_cons]
  split <;> simp
theorem words_cut (x r : List UInt8) (c : UInt8) (h : ∀ b ∈ x, wordB b = false) (hc : wordB c = true) : wordsL (x ++ c :: r) = (if x = [] then [] else [x]) ++ wordsL r := by
  unfold wordsL
  rw [pcs_cut x r c h hc, List.filter_cons]
  cases x <;> simp
def goodW (w : List UInt8) : Prop := w ≠ [] ∧ ∀ b ∈ w, 33 ≤ b.toNat ∧ b.toNat ≤ 126
def goodL (ws : List (List UInt8)) : Prop := keptW ws = true ∧ ∀ w ∈ ws, goodW w
theorem good_word {w : List UInt8} (h : goodW w) : (∀ b ∈ w, wordB b = false) ∧ (∀ b ∈ w, nlB b = false) ∧ ∀ b ∈ w, mayB b = true := by
  refine ⟨fun b hb => ?_, fun b hb => ?_, fun b hb => ?_⟩
  · have := (h.2 b hb).1
    unfold wordB
    rw [Bool.or_eq_false_iff, beq_eq_false_iff_ne, beq_eq_false_iff_ne]
    exact ⟨fun q => by subst q; exact absurd this (by decide), fun q => by subst q; exact absurd this (by decide)⟩
  · have := (h.2 b hb).1
    unfold nlB
    rw [beq_eq_false_iff_ne]
    exact fun q => by subst q; exact absurd this (by decide)
  · have := h.2 b hb
    unfold mayB
    rw [decide_eq_true (show 32 ≤ b.toNat by omega), decide_eq_true this.2]
    rfl
def preW (wide : Bool) : List UInt8 := if wide then [9, 32] else []
def wordT (wide : Bool) (w : List UInt8) : List UInt8 := preW wide ++ (w ++ [32])
def endT (wide : Bool) (ws : List (List UInt8)) : List UInt8 := if wide then [32, 10, 33] ++ (ws.headD [] ++ [10]) else []
def lineT (wide : Bool) (ws : List (List UInt8)) : List UInt8 := ws.flatMap (wordT wide) ++ ([10] ++ endT wide ws)
theorem words_T (wide : Bool) (w r : List UInt8) (h : goodW w) : wordsL (wordT wide w ++ r) = w :: wordsL r := by
  have e : wordsL (w ++ 32 :: r) = w :: wordsL r := by
    rw [words_cut w r 32 (good_word h).1 rfl, if_neg h.1]
    rfl
  unfold wordT preW
  split
  · show wordsL (9 :: 32 :: ((w ++ [32]) ++ r)) = _
    have e1 := words_cut [] (32 :: ((w ++ [32]) ++ r)) 9 (by simp) rfl
    have e2 := words_cut [] ((w ++ [32]) ++ r) 32 (by simp) rfl
    simp only [List.nil_append, if_pos] at e1 e2
    rw [e1, e2, List.append_assoc]
    exact e
  · rw [List.nil_append, List.append_assoc]
    exact e
theorem words_flat (wide : Bool) : ∀ (ws : List (List UInt8)), (∀ w ∈ ws, goodW w) → wordsL (ws.flatMap (wordT wide)) = ws
  | [], _ => rfl
  | w :: ws, h => by rw [List.flatMap_cons, words_T wide w _ (h w (by simp)), words_flat wide ws (fun x hx => h x (by simp [hx]))]
theorem flat_nl (wide : Bool) (ws : List (List UInt8)) (h : ∀ w ∈ ws, goodW w) : ∀ b ∈ ws.flatMap (wordT wide), nlB b = false ∧ mayB b = true := by
  intro b hb
  obtain ⟨w, hw, hb⟩ := List.mem_flatMap.1 hb
  unfold wordT preW at hb
  rcases List.mem_append.1 hb with hb | hb
  · split at hb
    · simp only [List.mem_cons, List.not_mem_nil, or_false] at hb
      rcases hb with rfl | rfl <;> exact ⟨rfl, rfl⟩
    · simp at hb
  · rcases List.mem_append.1 hb with hb | hb
    · exact ⟨(good_word (h w hw)).2.1 b hb, (good_word (h w hw)).2.2 b hb⟩
    · simp only [List.mem_cons, List.not_mem_nil, or_false] at hb
      subst hb
      exact ⟨rfl, rfl⟩
theorem lines_T (wide : Bool) (ws : List (List UInt8)) (r : List UInt8) (h : goodL ws) : linesL (lineT wide ws ++ r) = ws :: linesL r := by
  have e0 : lineT wide ws ++ r = ws.flatMap (wordT wide) ++ 10 :: (endT wide ws ++ r) := by simp [lineT]
  rw [e0, lines_cut _ _ (fun b hb => (flat_nl wide ws h.2 b hb).1), words_flat wide ws h.2, if_pos h.1]
  have e1 : linesL (endT wide ws ++ r) = linesL r := by
    unfold endT
    split
    · cases ws with
      | nil => exact absurd h.1 (by simp [keptW])
      | cons w ws =>
        have hw := h.2 w (by simp)
        have e2 : [32, 10, 33] ++ ((w :: ws).headD [] ++ [10]) ++ r = [32] ++ 10 :: ((33 :: w) ++ 10 :: r) := by simp
        rw [e2, lines_cut [32] _ (by decide), lines_cut (33 :: w) r (by
          intro b hb
          rcases List.mem_cons.1 hb with rfl | hb
          · rfl
          · exact (good_word hw).2.1 b hb)]
        have e3 : wordsL [32] = [] := rfl
        have e4 : wordsL (33 :: w) = [33 :: w] := by
          unfold wordsL
          have := pcs_skip (p := wordB) (33 :: w) [] [] (by
            intro b hb
            rcases List.mem_cons.1 hb with rfl | hb
            · rfl
            · exact (good_word hw).1 b hb)
          rw [List.append_nil] at this
          rw [this]
          simp [pcs]
        rw [e3, e4]
        rfl
    · rfl
  rw [e1]
  rfl
theorem lines_joined (wide : Bool) : ∀ (l : List (List (List UInt8))), (∀ ws ∈ l, goodL ws) → linesL (l.flatMap (lineT wide)) = l
  | [], _ => rfl
  | ws :: l, h => by rw [List.flatMap_cons, lines_T wide ws _ (h ws (by simp)), lines_joined wide l (fun x hx => h x (by simp [hx]))]
theorem may_joined (wide : Bool) (l : List (List (List UInt8))) (h : ∀ ws ∈ l, goodL ws) : ∀ b ∈ l.flatMap (lineT wide), mayB b = true := by
  intro b hb
  obtain ⟨ws, hws, hb⟩ := List.mem_flatMap.1 hb
  have hg := h ws hws
  unfold lineT at hb
  rcases List.mem_append.1 hb with hb | hb
  · exact (flat_nl wide ws hg.2 b hb).2
  · rcases List.mem_append.1 hb with hb | hb
    · simp only [List.mem_cons, List.not_mem_nil, or_false] at hb
      subst hb; rfl
    · unfold endT at hb
      split at hb
      · cases ws with
        | nil => exact absurd hg.1 (by simp [keptW])
        | cons w ws =>
          simp only [List.mem_append, List.mem_cons, List.not_mem_nil, or_false, List.headD_cons] at hb
          rcases hb with (rfl | rfl | rfl) | hb | rfl
          · rfl
          · rfl
          · rfl
          · exact (good_word (hg.2 w (by simp))).2.2 b hb
          · rfl
      · simp at hb
end Go.Proofs.YtdnneofebehpaaaDoor.LexPlain
