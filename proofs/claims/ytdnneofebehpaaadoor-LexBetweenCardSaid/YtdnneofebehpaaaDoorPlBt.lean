/- Between tokens, plainly. -/
import Derived.Test.YtdnneofebehpaaaDoorPlTok
namespace Go.Proofs.YtdnneofebehpaaaDoor.LexPlain
def okTok (t : Tk) : Prop := (t.1 = 119 ∧ t.2 ≠ [] ∧ (∀ b ∈ t.2, stopB b = false) ∧ ∀ r, t.2 ≠ 47 :: 42 :: r) ∨ (t.1 = 113 ∧ ∀ b ∈ t.2, quoteB b = false) ∨ (signB t.1 = true ∧ t.2 = [t.1])
def render (t : Tk) : List UInt8 := if t.1 = 113 then 34 :: (t.2 ++ [34]) else if t.1 = 119 then t.2 ++ [32] else t.2
theorem takeWhile_all {p : UInt8 → Bool} : ∀ {x r : List UInt8} {c : UInt8}, (∀ b ∈ x, p b = true) → p c = false → (x ++ c :: r).takeWhile p = x ∧ (x ++ c :: r).dropWhile p = c :: r
  | [], r, c, _, hc => by simp [hc]
  | b :: x, r, c, hx, hc => by
    have h1 := hx b (by simp)
    have ⟨h2, h3⟩ := takeWhile_all (x := x) (r := r) (fun b hb => hx b (by simp [hb])) hc
    rw [List.cons_append, List.takeWhile_cons, List.dropWhile_cons, if_pos h1, if_pos h1, h2, h3]
    exact ⟨rfl, rfl⟩
theorem takeWhile_imp {p : UInt8 → Bool} : ∀ {l : List UInt8} {c : UInt8}, c ∈ l.takeWhile p → p c = true
  | b :: l, c, h => by
    rw [List.takeWhile_cons] at h
    split at h
    · rename_i hp
      rcases List.mem_cons.1 h with rfl | h
      · exact hp
      · exact takeWhile_imp h
    · simp at h
theorem stop_parts {b : UInt8} (h : stopB b = false) : blankB b = false ∧ b ≠ 35 ∧ b ≠ 34 ∧ signB b = false := by
  unfold stopB at h
  unfold blankB signB
  simp only [List.contains_cons, List.contains_nil, Bool.or_false, Bool.or_eq_false_iff, beq_eq_false_iff_ne, ne_eq] at h ⊢
  obtain ⟨a1, a2, a3, a4, a5, a6, a7, a8, a9, a10⟩ := h
  exact ⟨⟨a1, a2, a3⟩, a10, a9, a4, a5, a6, a7, a8⟩
theorem lex_render {t : Tk} (h : okTok t) (r : List UInt8) : lexL (render t ++ r) = (lexL r).map (t :: ·) := by
  obtain ⟨k, x⟩ := t
  rcases h with ⟨h1, h2, h3, h4⟩ | ⟨h1, h2⟩ | ⟨h1, h2⟩
  · simp only at h1 h2 h3 h4
    subst h1
    cases x with
    | nil => exact absurd rfl h2
    | cons b x =>
      obtain ⟨q1, q2, q3, q4⟩ := stop_parts (h3 b (by simp))
      have e : render (119, b :: x) ++ r = b :: (x ++ 32 :: r) := by simp [render]
      have hn : ¬ (b = 47 ∧ (x ++ 32 :: r).head? = some 42) := by
        rintro ⟨rfl, g⟩
        cases x with
        | nil => simp at g
        | cons c x => simp at g; subst g; exact h4 x rfl
      obtain ⟨w1, w2⟩ := takeWhile_all (p := fun c => !stopB c) (x := x) (r := r) (c := 32) (fun c hc => by simp [h3 c (by simp [hc])]) (by decide)
      rw [e, lexL_cons, if_neg (by simp [q1]), if_neg q2, if_neg hn, if_neg q3, if_neg (by simp [q4]), w1, w2, lexL_cons 32 r, if_pos (by decide)]
  · simp only at h1 h2
    subst h1
    have e : render (113, x) ++ r = 34 :: (x ++ 34 :: r) := by simp [render]
    obtain ⟨w1, w2⟩ := takeWhile_all (p := fun c => !quoteB c) (x := x) (r := r) (c := 34) (fun c hc => by simp [h2 c hc]) (by decide)
    rw [e, lexL_cons, if_neg (by decide), if_neg (by decide), if_neg (by rintro ⟨q, _⟩; exact absurd q (by decide)), if_pos rfl, w1, w2]
    rfl
  · simp only at h1 h2
    subst h2
    have hk : k ≠ 113 ∧ k ≠ 119 ∧ blankB k = false ∧ k ≠ 35 ∧ k ≠ 47 ∧ k ≠ 34 := by
      unfold signB at h1
      simp only [List.contains_cons, List.contains_nil, Bool.or_false, Bool.or_eq_true, beq_iff_eq] at h1
      rcases h1 with h | h | h | h | h <;> subst h <;> decide
    obtain ⟨k1, k2, k3, k4, k5, k6⟩ := hk
    have e : render (k, [k]) ++ r = k :: r := by simp [render, k1, k2]
    rw [e, lexL_cons, if_neg (by simp [k3]), if_neg k4, if_neg (by rintro ⟨q, _⟩; exact k5 q), if_neg k6, if_pos h1]
def btw (n : Nat) : List UInt8 := match n with
  | 0 => [32]
  | 1 => [10, 9]
  | 2 => [32, 35, 32, 120, 32, 59, 32, 34, 10]
  | _ => [47, 42, 32, 123, 32, 34, 32, 42, 47]
theorem lex_btw (n : Nat) (r : List UInt8) : lexL (btw n ++ r) = lexL r := by
  unfold btw
  split
  · show lexL (32 :: r) = _
    rw [lexL_cons, if_pos (by decide)]
  · show lexL (10 :: 9 :: r) = _
    rw [lexL_cons, if_pos (by decide), lexL_cons, if_pos (by decide)]
  · show lexL (32 :: 35 :: 32 :: 120 :: 32 :: 59 :: 32 :: 34 :: 10 :: r) = _
    rw [lexL_cons, if_pos (by decide), lexL_cons, if_neg (by decide), if_pos rfl]
    show lexL (10 :: r) = _
    rw [lexL_cons, if_pos (by decide)]
  · show lexL (47 :: 42 :: 32 :: 123 :: 32 :: 34 :: 32 :: 42 :: 47 :: r) = _
    rw [lexL_cons, if_neg (by decide), if_neg (by decide), if_pos (by simp)]
    have e : endC ((42 :: 32 :: 123 :: 32 :: 34 :: 32 :: 42 :: 47 :: r).drop 1) = some r := by
      show endC (32 :: 123 :: 32 :: 34 :: 32 :: 42 :: 47 :: r) = some r
      simp [endC]
    rw [e]
    rfl
def between (n : Nat) (l : List Tk) : List UInt8 := btw n ++ l.flatMap (fun t => render t ++ btw n)
theorem lex_flat (n : Nat) : ∀ (l : List Tk), (∀ t ∈ l, okTok t) → lexL (l.flatMap (fun t => render t ++ btw n)) = some l
  | [], _ => lexL_nil
  | t :: l, h => by
    rw [List.flatMap_cons, List.append_assoc, lex_render (h t (by simp)), lex_btw, lex_flat n l (fun t ht => h t (by simp [ht]))]
    rfl
theorem lex_between (n : Nat) (l : List Tk) (h : ∀ t ∈ l, okTok t) : lexL (between n l) = some l := by
  unfold between
  rw [lex_btw, lex_flat n l h]
theorem lexF_ok : ∀ (n : Nat) (s : List UInt8) (l : List Tk), lexF n s = some l → (∀ t ∈ l, okTok t ∧ ∀ b ∈ t.2, b ∈ s) := by
  intro n
  induction n with
  | zero => intro s l h; simp [lexF] at h
  | succ n ih =>
    intro s l h
    cases s with
    | nil => simp only [lexF, Option.some.injEq] at h; subst h; simp
    | cons b r =>
      rw [lexF] at h
      have sub : ∀ (r' : List UInt8) (l' : List Tk), (∀ c ∈ r', c ∈ b :: r) → lexF n r' = some l' → ∀ t ∈ l', okTok t ∧ ∀ c ∈ t.2, c ∈ b :: r :=
        fun r' l' hs hl t ht => ⟨(ih r' l' hl t ht).1, fun c hc => hs c ((ih r' l' hl t ht).2 c hc)⟩
      split at h
      · exact sub r l (fun c hc => by simp [hc]) h
      split at h
      · exact sub _ l (fun c hc => List.mem_cons_of_mem _ ((List.dropWhile_suffix _).subset hc)) h
      split at h
      · obtain ⟨r', hr', h⟩ := Option.bind_eq_some_iff.mp h
        refine sub r' l (fun c hc => ?_) h
        have key : ∀ (s r' : List UInt8), endC s = some r' → ∀ c ∈ r', c ∈ s := by
          intro s
          induction s with
          | nil => intro r' q; simp [endC] at q
          | cons d s ihs =>
            intro r' q c hc
            rw [endC] at q
            split at q
            · injection q with q; subst q; exact List.mem_cons_of_mem _ (List.mem_of_mem_drop hc)
            · exact List.mem_cons_of_mem _ (ihs r' q c hc)
        exact List.mem_cons_of_mem _ (List.mem_of_mem_drop (key _ _ hr' c hc))
      split at h
      · rename_i hq
        subst hq
        split at h
        · simp at h
        · rename_i c r' hd
          split at h
          · simp at h
          · rename_i hc10
            obtain ⟨l', hl', rfl⟩ := Option.map_eq_some_iff.mp h
            have hsub : ∀ c' ∈ r', c' ∈ 34 :: r := fun c' hc' => List.mem_cons_of_mem _ ((List.dropWhile_suffix (fun c => !quoteB c)).subset (by rw [hd]; exact List.mem_cons_of_mem _ hc'))
            intro t ht
            rcases List.mem_cons.1 ht with rfl | ht
            · refine ⟨Or.inr (Or.inl ⟨rfl, fun c' hc' => ?_⟩), fun c' hc' => List.mem_cons_of_mem _ ((List.takeWhile_prefix _).subset hc')⟩
              have := takeWhile_imp hc'
              simpa using this
            · exact sub r' l' hsub hl' t ht
      split at h
      · rename_i hs
        obtain ⟨l', hl', rfl⟩ := Option.map_eq_some_iff.mp h
        intro t ht
        rcases List.mem_cons.1 ht with rfl | ht
        · exact ⟨Or.inr (Or.inr ⟨hs, rfl⟩), fun c hc => by simp at hc; simp [hc]⟩
        · exact sub r l' (fun c hc => by simp [hc]) hl' t ht
      · rename_i h1 h2 h3 h4 h5
        obtain ⟨l', hl', rfl⟩ := Option.map_eq_some_iff.mp h
        intro t ht
        rcases List.mem_cons.1 ht with rfl | ht
        · refine ⟨Or.inl ⟨rfl, by simp, ?_, ?_⟩, ?_⟩
          · intro c hc
            rcases List.mem_cons.1 hc with rfl | hc
            · unfold blankB at h1
              unfold signB at h5
              unfold stopB
              simp only [List.contains_cons, List.contains_nil, Bool.or_false, Bool.or_eq_true, beq_iff_eq, not_or] at h1 h5
              simp only [List.contains_cons, List.contains_nil, Bool.or_false, Bool.or_eq_false_iff, beq_eq_false_iff_ne, ne_eq]
              exact ⟨h1.1, h1.2.1, h1.2.2, h5.1, h5.2.1, h5.2.2.1, h5.2.2.2.1, h5.2.2.2.2, h4, h2⟩
            · have := takeWhile_imp hc
              simpa using this
          · intro r' q
            simp only [List.cons.injEq] at q
            obtain ⟨q1, q2⟩ := q
            apply h3
            refine ⟨q1, ?_⟩
            cases r with
            | nil => simp at q2
            | cons c r =>
              rw [List.takeWhile_cons] at q2
              split at q2
              · injection q2 with q2 _; simp [q2]
              · simp at q2
          · intro c hc
            rcases List.mem_cons.1 hc with rfl | hc
            · simp
            · exact List.mem_cons_of_mem _ ((List.takeWhile_prefix _).subset hc)
        · exact sub _ l' (fun c hc => List.mem_cons_of_mem _ ((List.dropWhile_suffix _).subset hc)) hl' t ht
theorem lexL_ok {s : List UInt8} {l : List Tk} (h : lexL s = some l) : ∀ t ∈ l, okTok t ∧ ∀ b ∈ t.2, b ∈ s := lexF_ok _ s l h
end Go.Proofs.YtdnneofebehpaaaDoor.LexPlain
