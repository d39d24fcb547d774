/- Patterns, plainly: sets of places as four words; what a pattern takes; the program's ends. -/
import Derived.Test.YtlkjfjlmjgkheaaPa
import Derived.Laws.BitsAllLaws
namespace Go.Proofs.Ytlkjfjlmjgkheaa.G
open Go.RowKit Go.Proofs.YtlkjfjlmjgkheaaW.PrintWords Go.Proofs.YtlkjfjlmjgkheaaW.PrintLast Go.Proofs.YtlkjfjlmjgkheaaW.PrintMore Go.Proofs.YtlkjfjlmjgkheaaRd
def bitN (x0 x1 x2 x3 i : Nat) : Bool := if i < 64 then x0.testBit i else if i < 128 then x1.testBit (i - 64) else if i < 192 then x2.testBit (i - 128) else x3.testBit (i - 192)
theorem wbit_nat (x i : Nat) (hx : x < 18446744073709551616) : wbit (x : Int) (i : Int) = x.testBit i := by
  unfold wbit
  have h1 : (x : Int) / 2 ^ (i : Int).toNat = ((x / 2 ^ i : Nat) : Int) := by
    rw [Int.toNat_natCast]; norm_cast
  have h2 : x / 2 ^ i < 18446744073709551616 := Nat.lt_of_le_of_lt (Nat.div_le_self _ _) hx
  rw [h1, show (1 : Int) = ((1 : Nat) : Int) from rfl, u64_and_nat _ _ h2 (by omega), Nat.testBit, Nat.shiftRight_eq_div_pow, Nat.and_comm 1]
  rcases Nat.mod_two_eq_zero_or_one (x / 2 ^ i) with h | h
  · simp [Nat.and_one_is_mod, h]
  · simp [Nat.and_one_is_mod, h]
theorem has_nat (x0 x1 x2 x3 i : Nat) (h0 : x0 < 18446744073709551616) (h1 : x1 < 18446744073709551616) (h2 : x2 < 18446744073709551616) (h3 : x3 < 18446744073709551616) (hi : i < 256) :
    pat_places_has.f x0 x1 x2 x3 i = some (bitN x0 x1 x2 x3 i) := by
  unfold pat_places_has.f bitN
  rw [if_pos (by omega)]
  by_cases a : i < 64
  · rw [if_pos (by omega), if_pos a, show (i : Int) % 64 = ((i : Nat) : Int) by omega, wbit_nat _ _ h0]
  · rw [if_neg (by omega), if_neg a]
    by_cases b : i < 128
    · rw [if_pos (by omega), if_pos b, show (i : Int) % 64 = ((i - 64 : Nat) : Int) by omega, wbit_nat _ _ h1]
    · rw [if_neg (by omega), if_neg b]
      by_cases c : i < 192
      · rw [if_pos (by omega), if_pos c, show (i : Int) % 64 = ((i - 128 : Nat) : Int) by omega, wbit_nat _ _ h2]
      · rw [if_neg (by omega), if_neg c, if_pos (by omega), show (i : Int) % 64 = ((i - 192 : Nat) : Int) by omega, wbit_nat _ _ h3]
theorem wrap_pow (i : Nat) (h : i < 64) : IntKind.u64.wrap (2 ^ i) = ((2 ^ i : Nat) : Int) := by
  rw [IntKind.wrap_u64]
  have : 2 ^ i < 18446744073709551616 := Nat.pow_lt_pow_right (by omega : 1 < 2) h
  have h2 : ((2 : Int) ^ i) = ((2 ^ i : Nat) : Int) := by norm_cast
  rw [h2]
  generalize 2 ^ i = n at this ⊢
  omega
theorem or_lt {a b : Nat} (ha : a < 18446744073709551616) (hb : b < 18446744073709551616) : a ||| b < 18446744073709551616 := Nat.or_lt_two_pow (n := 64) ha hb
theorem put_word (x i : Nat) (hx : x < 18446744073709551616) (hi : i < 64) : Go.bits .or .u64 (x : Int) (IntKind.u64.wrap (2 ^ i)) = ((x ||| 2 ^ i : Nat) : Int) ∧ x ||| 2 ^ i < 18446744073709551616 := by
  have : 2 ^ i < 18446744073709551616 := Nat.pow_lt_pow_right (by omega : 1 < 2) hi
  rw [wrap_pow i hi, u64_or_nat _ _ hx this]
  exact ⟨rfl, or_lt hx this⟩
def RepW (x0 x1 x2 x3 : Nat) (S : Nat → Prop) : Prop :=
  x0 < 18446744073709551616 ∧ x1 < 18446744073709551616 ∧ x2 < 18446744073709551616 ∧ x3 < 18446744073709551616 ∧ ∀ i, i < 256 → (bitN x0 x1 x2 x3 i = true ↔ S i)
theorem RepW.congr {x0 x1 x2 x3 : Nat} {S T : Nat → Prop} (h : RepW x0 x1 x2 x3 S) (hST : ∀ i, i < 256 → (S i ↔ T i)) : RepW x0 x1 x2 x3 T :=
  ⟨h.1, h.2.1, h.2.2.1, h.2.2.2.1, fun i hi => (h.2.2.2.2 i hi).trans (hST i hi)⟩
theorem RepW.none : RepW 0 0 0 0 (fun _ => False) := by
  refine ⟨by omega, by omega, by omega, by omega, fun i hi => ?_⟩
  unfold bitN
  simp
theorem has_rep {x0 x1 x2 x3 : Nat} {S : Nat → Prop} (h : RepW x0 x1 x2 x3 S) (i : Nat) (hi : i < 256) : ∃ b, pat_places_has.f x0 x1 x2 x3 i = some b ∧ (b = true ↔ S i) :=
  ⟨_, has_nat _ _ _ _ _ h.1 h.2.1 h.2.2.1 h.2.2.2.1 hi, h.2.2.2.2 i hi⟩
theorem put_rep {x0 x1 x2 x3 : Nat} {S : Nat → Prop} (h : RepW x0 x1 x2 x3 S) (i : Nat) (hi : i < 256) :
    ∃ y0 y1 y2 y3 : Nat, pat_places_put.f x0 x1 x2 x3 i = some ((y0 : Int), (y1 : Int), (y2 : Int), (y3 : Int)) ∧ RepW y0 y1 y2 y3 (fun j => S j ∨ j = i) := by
  obtain ⟨h0, h1, h2, h3, hb⟩ := h
  unfold pat_places_put.f
  rw [if_pos (by omega)]
  by_cases a : i < 64
  · obtain ⟨e, l⟩ := put_word x0 i h0 a
    refine ⟨x0 ||| 2 ^ i, x1, x2, x3, ?_, l, h1, h2, h3, fun j hj => ?_⟩
    · rw [if_pos (by omega), show ((i : Int) % 64).toNat = i by omega, e]
    · show _ ↔ (S j ∨ j = i)
      rw [← hb j hj]
      unfold bitN
      by_cases c : j < 64
      · simp only [c, if_true, Nat.testBit_or, Nat.testBit_two_pow, Bool.or_eq_true, decide_eq_true_eq]
        constructor <;> (rintro (h | h) <;> simp [h])
      · simp only [c, if_false]
        exact ⟨Or.inl, fun h => h.elim id (fun e => by omega)⟩
  · rw [if_neg (by omega)]
    by_cases b : i < 128
    · obtain ⟨e, l⟩ := put_word x1 (i - 64) h1 (by omega)
      refine ⟨x0, x1 ||| 2 ^ (i - 64), x2, x3, ?_, h0, l, h2, h3, fun j hj => ?_⟩
      · rw [if_pos (by omega), show ((i : Int) % 64).toNat = i - 64 by omega, e]
      · show _ ↔ (S j ∨ j = i)
        rw [← hb j hj]
        unfold bitN
        by_cases c : j < 64
        · simp only [c, if_true]
          exact ⟨Or.inl, fun h => h.elim id (fun e => by omega)⟩
        · by_cases d : j < 128
          · simp only [c, d, if_true, if_false, Nat.testBit_or, Nat.testBit_two_pow, Bool.or_eq_true, decide_eq_true_eq]
            constructor
            · rintro (h | h)
              · exact Or.inl h
              · exact Or.inr (by omega)
            · rintro (h | h)
              · exact Or.inl h
              · exact Or.inr (by omega)
          · simp only [c, d, if_false]
            exact ⟨Or.inl, fun h => h.elim id (fun e => by omega)⟩
    · rw [if_neg (by omega)]
      by_cases c : i < 192
      · obtain ⟨e, l⟩ := put_word x2 (i - 128) h2 (by omega)
        refine ⟨x0, x1, x2 ||| 2 ^ (i - 128), x3, ?_, h0, h1, l, h3, fun j hj => ?_⟩
        · rw [if_pos (by omega), show ((i : Int) % 64).toNat = i - 128 by omega, e]
        · show _ ↔ (S j ∨ j = i)
          rw [← hb j hj]
          unfold bitN
          by_cases d : j < 128
          · by_cases e : j < 64
            · simp only [e, if_true]
              exact ⟨Or.inl, fun h => h.elim id (fun e => by omega)⟩
            · simp only [e, d, if_true, if_false]
              exact ⟨Or.inl, fun h => h.elim id (fun e => by omega)⟩
          · have d' : ¬ j < 64 := by omega
            by_cases f : j < 192
            · simp only [d, d', f, if_true, if_false, Nat.testBit_or, Nat.testBit_two_pow, Bool.or_eq_true, decide_eq_true_eq]
              constructor
              · rintro (h | h)
                · exact Or.inl h
                · exact Or.inr (by omega)
              · rintro (h | h)
                · exact Or.inl h
                · exact Or.inr (by omega)
            · simp only [d, d', f, if_false]
              exact ⟨Or.inl, fun h => h.elim id (fun e => by omega)⟩
      · obtain ⟨e, l⟩ := put_word x3 (i - 192) h3 (by omega)
        refine ⟨x0, x1, x2, x3 ||| 2 ^ (i - 192), ?_, h0, h1, h2, l, fun j hj => ?_⟩
        · rw [if_neg (by omega), if_pos (by omega), show ((i : Int) % 64).toNat = i - 192 by omega, e]
        · show _ ↔ (S j ∨ j = i)
          rw [← hb j hj]
          unfold bitN
          by_cases f : j < 192
          · by_cases d : j < 128
            · by_cases e : j < 64
              · simp only [e, if_true]
                exact ⟨Or.inl, fun h => h.elim id (fun e => by omega)⟩
              · simp only [e, d, if_true, if_false]
                exact ⟨Or.inl, fun h => h.elim id (fun e => by omega)⟩
            · have d' : ¬ j < 64 := by omega
              simp only [d, d', f, if_true, if_false]
              exact ⟨Or.inl, fun h => h.elim id (fun e => by omega)⟩
          · have d : ¬ j < 128 := by omega
            have d' : ¬ j < 64 := by omega
            simp only [d, d', f, if_false, Nat.testBit_or, Nat.testBit_two_pow, Bool.or_eq_true, decide_eq_true_eq]
            constructor
            · rintro (h | h)
              · exact Or.inl h
              · exact Or.inr (by omega)
            · rintro (h | h)
              · exact Or.inl h
              · exact Or.inr (by omega)
theorem with_rep {x0 x1 x2 x3 y0 y1 y2 y3 : Nat} {S T : Nat → Prop} (h : RepW x0 x1 x2 x3 S) (k : RepW y0 y1 y2 y3 T) :
    pat_places_with.f x0 x1 x2 x3 y0 y1 y2 y3 = some (((x0 ||| y0 : Nat) : Int), ((x1 ||| y1 : Nat) : Int), ((x2 ||| y2 : Nat) : Int), ((x3 ||| y3 : Nat) : Int)) ∧ RepW (x0 ||| y0) (x1 ||| y1) (x2 ||| y2) (x3 ||| y3) (fun j => S j ∨ T j) := by
  obtain ⟨h0, h1, h2, h3, hb⟩ := h
  obtain ⟨k0, k1, k2, k3, kb⟩ := k
  refine ⟨?_, or_lt h0 k0, or_lt h1 k1, or_lt h2 k2, or_lt h3 k3, fun j hj => ?_⟩
  · unfold pat_places_with.f
    rw [u64_or_nat _ _ h0 k0, u64_or_nat _ _ h1 k1, u64_or_nat _ _ h2 k2, u64_or_nat _ _ h3 k3]
  · show _ ↔ (S j ∨ T j)
    rw [← hb j hj, ← kb j hj, ← Bool.or_eq_true]
    have : bitN (x0 ||| y0) (x1 ||| y1) (x2 ||| y2) (x3 ||| y3) j = (bitN x0 x1 x2 x3 j || bitN y0 y1 y2 y3 j) := by
      unfold bitN
      repeat' split
      all_goals simp only [Nat.testBit_or]
    rw [this]
theorem word_eq {x y : Nat} (hx : x < 18446744073709551616) (hy : y < 18446744073709551616) (h : ∀ i, i < 64 → x.testBit i = y.testBit i) : x = y := by
  apply Nat.eq_of_testBit_eq
  intro i
  by_cases hi : i < 64
  · exact h i hi
  · have p : 18446744073709551616 ≤ 2 ^ i := Nat.pow_le_pow_right (n := 2) (by omega) (show 64 ≤ i by omega)
    rw [Nat.testBit_lt_two_pow (by omega), Nat.testBit_lt_two_pow (by omega)]
theorem rep_eq {x0 x1 x2 x3 y0 y1 y2 y3 : Nat} {S T : Nat → Prop} (h : RepW x0 x1 x2 x3 S) (k : RepW y0 y1 y2 y3 T) :
    ((x0 : Int) == (y0 : Int) && ((x1 : Int) == (y1 : Int) && ((x2 : Int) == (y2 : Int) && ((x3 : Int) == (y3 : Int))))) = true ↔ ∀ i, i < 256 → (S i ↔ T i) := by
  obtain ⟨h0, h1, h2, h3, hb⟩ := h
  obtain ⟨k0, k1, k2, k3, kb⟩ := k
  simp only [Bool.and_eq_true, beq_iff_eq]
  constructor
  · rintro ⟨e0, e1, e2, e3⟩ i hi
    have e0 : x0 = y0 := by omega
    have e1 : x1 = y1 := by omega
    have e2 : x2 = y2 := by omega
    have e3 : x3 = y3 := by omega
    subst e0 e1 e2 e3
    rw [← hb i hi, ← kb i hi]
  · intro e
    have key : ∀ i, i < 256 → bitN x0 x1 x2 x3 i = bitN y0 y1 y2 y3 i := fun i hi => by
      rw [Bool.eq_iff_iff, hb i hi, kb i hi]; exact e i hi
    refine ⟨?_, ?_, ?_, ?_⟩
    · rw [word_eq h0 k0 (fun i hi => by have := key i (by omega); simpa [bitN, hi] using this)]
    · rw [word_eq h1 k1 (fun i hi => by have := key (i + 64) (by omega); simpa [bitN, show ¬ i + 64 < 64 by omega, show i + 64 < 128 by omega] using this)]
    · rw [word_eq h2 k2 (fun i hi => by have := key (i + 128) (by omega); simpa [bitN, show ¬ i + 128 < 64 by omega, show ¬ i + 128 < 128 by omega, show i + 128 < 192 by omega] using this)]
    · rw [word_eq h3 k3 (fun i hi => by have := key (i + 192) (by omega); simpa [bitN, show ¬ i + 192 < 64 by omega, show ¬ i + 192 < 128 by omega, show ¬ i + 192 < 192 by omega] using this)]
end Go.Proofs.Ytlkjfjlmjgkheaa.G
