/- Plain lemmas on 'from some number of rounds on', lists read by whole numbers, wraps. -/
import Derived.Test.YtlkjfjlmjgkheaaHx0
import Derived.Test.YtlkjfjlmjgkheaaHx12
import Derived.Test.YtlkjfjlmjgkheaaHx3
import Derived.Test.YtlkjfjlmjgkheaaOkH
import Derived.Laws.BitsAllLaws
import Derived.Test.YtlkjfjlmjgkheaaHx5
import Derived.Test.YtlkjfjlmjgkheaaHx6
import Derived.Test.YtlkjfjlmjgkheaaHx7
import Derived.Test.YtlkjfjlmjgkheaaHx8
import Derived.Test.YtlkjfjlmjgkheaaHx13
import Derived.Test.YtlkjfjlmjgkheaaHx14
import Derived.Test.YtlkjfjlmjgkheaaHx15
import Derived.Test.YtlkjfjlmjgkheaaHx16
import Derived.Test.YtlkjfjlmjgkheaaHx9
import Derived.Test.YtlkjfjlmjgkheaaHx17
import Derived.Test.YtlkjfjlmjgkheaaHx11
namespace Go.Proofs.Ytlkjfjlmjgkheaa.H
open Go.RowKit Go.Proofs.YtlkjfjlmjgkheaaW.PrintWords Go.Proofs.YtlkjfjlmjgkheaaW.PrintLast Go.Proofs.YtlkjfjlmjgkheaaW.PrintMore
theorem Ev.ite_pos {α : Type} {c : Prop} [Decidable c] {A B : Nat → Option α} {r : α} (h : c) (e : Ev A r) : Ev (fun k => if c then A k else B k) r := by
  simpa only [if_pos h] using e
theorem Ev.ite_neg {α : Type} {c : Prop} [Decidable c] {A B : Nat → Option α} {r : α} (h : ¬ c) (e : Ev B r) : Ev (fun k => if c then A k else B k) r := by
  simpa only [if_neg h] using e
theorem Ev.bind1 {α β : Type} {g : Nat → Option α} {f : Nat → α → Option β} {r : β} (a : α) (h : Ev g a) (k : Ev (fun n => f n a) r) : Ev (fun n => (g n).bind (f n)) r := Ev.bind h k
theorem Ev.some {α β : Type} {f : Nat → α → Option β} {a : α} {r : β} (k : Ev (fun n => f n a) r) : Ev (fun n => (some a).bind (f n)) r := k
theorem w64 {i : Int} (h : -9223372036854775808 ≤ i) (h' : i ≤ 9223372036854775807) : wrap64 i = i := by
  unfold wrap64; omega
theorem w64s (j : Nat) (h : j < 9223372036854775807) : wrap64 ((j : Int) + 1) = ((j + 1 : Nat) : Int) := by
  rw [w64 (by omega) (by omega)]; omega
theorem rdn (xs : List Int) (j : Nat) (h : j < xs.length) : rd xs (j : Int) = xs[j] := by
  simp [rd, List.getD_eq_getElem?_getD, List.getElem?_eq_getElem h]
theorem dropc {α : Type} (xs : List α) (j : Nat) (h : j < xs.length) : xs.drop j = xs[j] :: xs.drop (j + 1) := List.drop_eq_getElem_cons h
theorem mx_eq (a b : Int) : mx a b = max a b := by unfold mx; omega
theorem mn_eq (a b : Int) : mn a b = min a b := by unfold mn; omega
end Go.Proofs.Ytlkjfjlmjgkheaa.H
/- Patterns, plainly: their sizes, by the program and by the reference; the examples. -/
namespace Go.Proofs.Ytlkjfjlmjgkheaa.H
open Go.RowKit Go.Proofs.YtlkjfjlmjgkheaaW.PrintWords Go.Proofs.YtlkjfjlmjgkheaaW.PrintLast Go.Proofs.YtlkjfjlmjgkheaaW.PrintMore Go.Proofs.YtlkjfjlmjgkheaaRd
theorem rd25n (xs : List S25) (j : Nat) (h : j < xs.length) : rd_T25 xs (j : Int) = xs[j] := by
  simp [rd_T25, List.getD_eq_getElem?_getD, List.getElem?_eq_getElem h]
theorem eta25 (x : S25) : (⟨x.f0, x.f1, x.f2⟩ : S25) = x := by obtain ⟨a, b, c⟩ := x; rfl
theorem ok25_subs {x : S25} (h : ok25 x) : x.f2.length * 56 ≤ 140737488351232 ∧ ∀ y ∈ x.f2, ok25 y := by
  obtain ⟨a, b, c⟩ := x
  rw [ok25] at h
  exact ⟨h.2.2.1, ok25s_mem h.2.2.2⟩
theorem sub_lt {x y : S25} (h : y ∈ x.f2) : SizeOf.sizeOf y < SizeOf.sizeOf x := by
  obtain ⟨a, b, c⟩ := x
  have h1 := List.sizeOf_lt_of_mem h
  have h2 : SizeOf.sizeOf (S25.mk a b c) = 1 + SizeOf.sizeOf a + SizeOf.sizeOf b + SizeOf.sizeOf c := S25.mk.sizeOf_spec a b c
  dsimp only at h1
  omega
theorem ind25 {P : S25 → Prop} (h : ∀ x, (∀ y ∈ x.f2, P y) → P x) : ∀ x, P x := by
  have key : ∀ n x, SizeOf.sizeOf x < n → P x := by
    intro n
    induction n with
    | zero => intro x hx; omega
    | succ n ih => intro x hx; exact h x (fun y hy => ih y (by have := sub_lt hy; omega))
  intro x
  exact key _ x (Nat.lt_succ_self _)
mutual
def partsP : S25 → Nat
  | ⟨_, _, l⟩ => partsL l + 1
def partsL : List S25 → Nat
  | [] => 0
  | x :: xs => partsP x + partsL xs
end
mutual
def deepP : S25 → Nat
  | ⟨_, _, l⟩ => deepL l + 1
def deepL : List S25 → Nat
  | [] => 0
  | x :: xs => max (deepP x) (deepL xs)
end
theorem partsP_eq (x : S25) : partsP x = partsL x.f2 + 1 := by obtain ⟨a, b, c⟩ := x; rw [partsP]
theorem deepP_eq (x : S25) : deepP x = deepL x.f2 + 1 := by obtain ⟨a, b, c⟩ := x; rw [deepP]
theorem deepL_le (l : List S25) (h : ∀ y ∈ l, deepP y ≤ partsP y) : deepL l ≤ partsL l := by
  induction l with
  | nil => simp [deepL]
  | cons x xs ih =>
    have h1 := h x (by simp)
    have h2 := ih (fun y hy => h y (by simp [hy]))
    simp only [deepL, partsL]
    omega
theorem deep_le (x : S25) : deepP x ≤ partsP x := by
  refine ind25 (P := fun x => deepP x ≤ partsP x) ?_ x
  intro x ih
  have := deepL_le x.f2 ih
  rw [partsP_eq, deepP_eq]
  omega
theorem parts_mem {l : List S25} {y : S25} (h : y ∈ l) : partsP y ≤ partsL l := by
  induction l with
  | nil => cases h
  | cons x xs ih =>
    simp only [partsL]
    rcases List.mem_cons.1 h with rfl | h
    · omega
    · have := ih h; omega
theorem rsize_loop (xs : List S25) (hl : xs.length * 56 ≤ 140737488351232) (ih : ∀ y ∈ xs, ∃ d, Ev (fun k => r5_Size.f k y.f0 y.f1 y.f2) (((min (partsP y) 1000000 : Nat) : Int), d) ∧ (partsP y < 1000000 → d = (deepP y : Int))) (m : Nat) :
    ∀ (j : Nat) (a : Nat) (d : Int), j + m = xs.length → 1 ≤ a → a ≤ 1000000 →
    ∃ e, Ev (fun k => r5_Size.l0 k a d xs (xs.length : Int) (j : Int)) (((min (a + partsL (xs.drop j)) 1000000 : Nat) : Int), e) ∧ (∀ D : Nat, d = (D : Int) → D ≤ 1000000 → a + partsL (xs.drop j) < 1000000 → e = ((max D (deepL (xs.drop j)) : Nat) : Int) + 1) := by
  induction m with
  | zero =>
    intro j a d hj ha hb
    refine ⟨wrap64 (d + 1), ?_, ?_⟩
    · refine Ev.step (by intro k; rw [r5_Size.l0]) ?_
      refine Ev.ite_neg (by omega) ?_
      rw [List.drop_of_length_le (by omega)]
      rw [show min (a + partsL []) 1000000 = a by simp [partsL]; omega]
      exact Ev.now _
    · intro D hD hD2 hp
      subst hD
      rw [List.drop_of_length_le (by omega), w64 (by omega) (by omega)]
      simp [deepL]
  | succ m im =>
    intro j a d hj ha hb
    have hlt : j < xs.length := by omega
    obtain ⟨e1, he1, hd1⟩ := ih xs[j] (List.getElem_mem hlt)
    have hp1 : 1 ≤ partsP xs[j] := by rw [partsP_eq]; omega
    have hmn : mn (wrap64 ((a : Int) + ((min (partsP xs[j]) 1000000 : Nat) : Int))) 1000000 = ((min (a + partsP xs[j]) 1000000 : Nat) : Int) := by
      rw [w64 (by omega) (by omega), mn_eq]; omega
    obtain ⟨e, he, hd⟩ := im (j + 1) (min (a + partsP xs[j]) 1000000) (mx d e1) (by omega) (by omega) (by omega)
    refine ⟨e, ?_, ?_⟩
    · refine Ev.step (by intro k; rw [r5_Size.l0]) ?_
      refine Ev.ite_pos (by omega) (Ev.ite_pos (by omega) (Ev.ite_pos (by omega) ?_))
      rw [rd25n xs j hlt]
      refine Ev.bind1 _ he1 ?_
      dsimp only
      rw [hmn, w64s j (by omega)]
      rw [dropc xs j hlt, partsL, show min (a + (partsP xs[j] + partsL (xs.drop (j + 1)))) 1000000 = min (min (a + partsP xs[j]) 1000000 + partsL (xs.drop (j + 1))) 1000000 by omega]
      exact he
    · intro D hD hD2 hp
      rw [dropc xs j hlt, partsL] at hp
      have h1 := hd1 (by omega)
      have h2 := deep_le xs[j]
      have := hd (max D (deepP xs[j])) (by rw [hD, h1, mx_eq]; omega) (by omega) (by omega)
      rw [this, dropc xs j hlt, deepL]
      omega
theorem rsize (x : S25) (hx : ok25 x) : ∃ d, Ev (fun k => r5_Size.f k x.f0 x.f1 x.f2) (((min (partsP x) 1000000 : Nat) : Int), d) ∧ (partsP x < 1000000 → d = (deepP x : Int)) := by
  revert hx
  refine ind25 (P := fun x => ok25 x → ∃ d, Ev (fun k => r5_Size.f k x.f0 x.f1 x.f2) (((min (partsP x) 1000000 : Nat) : Int), d) ∧ (partsP x < 1000000 → d = (deepP x : Int))) ?_ x
  intro x ih hx
  obtain ⟨hl, hs⟩ := ok25_subs hx
  obtain ⟨e, he, hd⟩ := rsize_loop x.f2 hl (fun y hy => ih y hy (hs y hy)) x.f2.length 0 1 0 (by omega) (by omega) (by omega)
  refine ⟨e, ?_, ?_⟩
  · refine Ev.step (by intro k; rw [r5_Size.f]) ?_
    rw [partsP_eq, Nat.add_comm]
    simpa using he
  · intro hp
    rw [partsP_eq] at hp
    have := hd 0 rfl (by omega) (by simpa [Nat.add_comm] using hp)
    rw [this, deepP_eq]
    simp
theorem psize_loop (xs : List S25) (hl : xs.length * 56 ≤ 140737488351232) (ih : ∀ y ∈ xs, Ev (fun k => pat_Size.f k y.f0 y.f1 y.f2) ((partsP y : Int), (deepP y : Int))) (m : Nat) :
    ∀ (j a d : Nat), j + m = xs.length → a + partsL (xs.drop j) ≤ 1000000 → d ≤ 1000000 →
    Ev (fun k => pat_Size.l0 k a d xs (xs.length : Int) (j : Int)) (((a + partsL (xs.drop j) : Nat) : Int), ((max d (deepL (xs.drop j)) + 1 : Nat) : Int)) := by
  induction m with
  | zero =>
    intro j a d hj ha hb
    refine Ev.step (by intro k; rw [pat_Size.l0]) ?_
    refine Ev.ite_neg (by omega) ?_
    rw [List.drop_of_length_le (by omega)]
    simp only [partsL, deepL, Nat.add_zero, Nat.max_zero]
    rw [w64s d (by omega)]
    exact Ev.now _
  | succ m im =>
    intro j a d hj ha hb
    have hlt : j < xs.length := by omega
    rw [dropc xs j hlt, partsL] at ha
    have h2 := deep_le xs[j]
    have := im (j + 1) (a + partsP xs[j]) (max d (deepP xs[j])) (by omega) (by omega) (by omega)
    refine Ev.step (by intro k; rw [pat_Size.l0]) ?_
    refine Ev.ite_pos (by omega) (Ev.ite_pos (by omega) (Ev.ite_pos (by omega) ?_))
    rw [rd25n xs j hlt]
    refine Ev.bind1 _ (ih xs[j] (List.getElem_mem hlt)) ?_
    dsimp only
    rw [w64 (by omega) (by omega), mx_eq, w64s j (by omega), dropc xs j hlt, partsL, deepL, show (a : Int) + (partsP xs[j] : Int) = ((a + partsP xs[j] : Nat) : Int) by omega, show max (d : Int) (deepP xs[j] : Int) = ((max d (deepP xs[j]) : Nat) : Int) by omega, ← Nat.add_assoc, ← Nat.max_assoc]
    exact this
theorem psize (x : S25) (hx : ok25 x) (hp : partsP x ≤ 1000000) : Ev (fun k => pat_Size.f k x.f0 x.f1 x.f2) ((partsP x : Int), (deepP x : Int)) := by
  revert hx hp
  refine ind25 (P := fun x => ok25 x → partsP x ≤ 1000000 → Ev (fun k => pat_Size.f k x.f0 x.f1 x.f2) ((partsP x : Int), (deepP x : Int))) ?_ x
  intro x ih hx hp
  obtain ⟨hl, hs⟩ := ok25_subs hx
  rw [partsP_eq] at hp
  have := psize_loop x.f2 hl (fun y hy => ih y hy (hs y hy) (by have := parts_mem hy; omega)) x.f2.length 0 1 0 (by omega) (by rw [List.drop_zero]; omega) (by omega)
  refine Ev.step (by intro k; rw [pat_Size.f]) ?_
  rw [partsP_eq, deepP_eq, Nat.add_comm]
  simpa using this
end Go.Proofs.Ytlkjfjlmjgkheaa.H
/- Patterns, plainly: sets of places as four words; what a pattern takes; the program's ends. -/
namespace Go.Proofs.Ytlkjfjlmjgkheaa.H
open Go.RowKit Go.Proofs.YtlkjfjlmjgkheaaW.PrintWords Go.Proofs.YtlkjfjlmjgkheaaW.PrintLast Go.Proofs.YtlkjfjlmjgkheaaW.PrintMore Go.Proofs.YtlkjfjlmjgkheaaRd
def bitN (x0 x1 x2 x3 i : Nat) : Bool := if i < 64 then x0.testBit i else if i < 128 then x1.testBit (i - 64) else if i < 192 then x2.testBit (i - 128) else x3.testBit (i - 192)
theorem wbit_nat (x i : Nat) (hx : x < 18446744073709551616) : wbit (x : Int) (i : Int) = x.testBit i := by
  unfold wbit
  have h1 : (x : Int) / 2 ^ (i : Int).toNat = ((x / 2 ^ i : Nat) : Int) := by
    rw [Int.toNat_natCast]; norm_cast
  have h2 : x / 2 ^ i < 18446744073709551616 := Nat.lt_of_le_of_lt (Nat.div_le_self _ _) hx
  rw [h1, show (1 : Int) = ((1 : Nat) : Int) from rfl, u64_and_nat _ _ h2 (by omega), Nat.testBit, Nat.shiftRight_eq_div_pow, Nat.and_comm 1]
  rcases Nat.mod_two_eq_zero_or_one (x / 2 ^ i) with h | h
  · simp [Nat.and_one_is_mod, h]
  · simp [Nat.and_one_is_mod, h]
theorem has_nat (x0 x1 x2 x3 i : Nat) (h0 : x0 < 18446744073709551616) (h1 : x1 < 18446744073709551616) (h2 : x2 < 18446744073709551616) (h3 : x3 < 18446744073709551616) (hi : i < 256) :
    pat_places_has.f x0 x1 x2 x3 i = some (bitN x0 x1 x2 x3 i) := by
  unfold pat_places_has.f bitN
  rw [if_pos (by omega)]
  by_cases a : i < 64
  · rw [if_pos (by omega), if_pos a, show (i : Int) % 64 = ((i : Nat) : Int) by omega, wbit_nat _ _ h0]
  · rw [if_neg (by omega), if_neg a]
    by_cases b : i < 128
    · rw [if_pos (by omega), if_pos b, show (i : Int) % 64 = ((i - 64 : Nat) : Int) by omega, wbit_nat _ _ h1]
    · rw [if_neg (by omega), if_neg b]
      by_cases c : i < 192
      · rw [if_pos (by omega), if_pos c, show (i : Int) % 64 = ((i - 128 : Nat) : Int) by omega, wbit_nat _ _ h2]
      · rw [if_neg (by omega), if_neg c, if_pos (by omega), show (i : Int) % 64 = ((i - 192 : Nat) : Int) by omega, wbit_nat _ _ h3]
theorem wrap_pow (i : Nat) (h : i < 64) : IntKind.u64.wrap (2 ^ i) = ((2 ^ i : Nat) : Int) := by
  rw [IntKind.wrap_u64]
  have : 2 ^ i < 18446744073709551616 := Nat.pow_lt_pow_right (by omega : 1 < 2) h
  have h2 : ((2 : Int) ^ i) = ((2 ^ i : Nat) : Int) := by norm_cast
  rw [h2]
  generalize 2 ^ i = n at this ⊢
  omega
theorem or_lt {a b : Nat} (ha : a < 18446744073709551616) (hb : b < 18446744073709551616) : a ||| b < 18446744073709551616 := Nat.or_lt_two_pow (n := 64) ha hb
theorem put_word (x i : Nat) (hx : x < 18446744073709551616) (hi : i < 64) : Go.bits .or .u64 (x : Int) (IntKind.u64.wrap (2 ^ i)) = ((x ||| 2 ^ i : Nat) : Int) ∧ x ||| 2 ^ i < 18446744073709551616 := by
  have : 2 ^ i < 18446744073709551616 := Nat.pow_lt_pow_right (by omega : 1 < 2) hi
  rw [wrap_pow i hi, u64_or_nat _ _ hx this]
  exact ⟨rfl, or_lt hx this⟩
def RepW (x0 x1 x2 x3 : Nat) (S : Nat → Prop) : Prop :=
  x0 < 18446744073709551616 ∧ x1 < 18446744073709551616 ∧ x2 < 18446744073709551616 ∧ x3 < 18446744073709551616 ∧ ∀ i, i < 256 → (bitN x0 x1 x2 x3 i = true ↔ S i)
theorem RepW.congr {x0 x1 x2 x3 : Nat} {S T : Nat → Prop} (h : RepW x0 x1 x2 x3 S) (hST : ∀ i, i < 256 → (S i ↔ T i)) : RepW x0 x1 x2 x3 T :=
  ⟨h.1, h.2.1, h.2.2.1, h.2.2.2.1, fun i hi => (h.2.2.2.2 i hi).trans (hST i hi)⟩
theorem RepW.none : RepW 0 0 0 0 (fun _ => False) := by
  refine ⟨by omega, by omega, by omega, by omega, fun i hi => ?_⟩
  unfold bitN
  simp
theorem has_rep {x0 x1 x2 x3 : Nat} {S : Nat → Prop} (h : RepW x0 x1 x2 x3 S) (i : Nat) (hi : i < 256) : ∃ b, pat_places_has.f x0 x1 x2 x3 i = some b ∧ (b = true ↔ S i) :=
  ⟨_, has_nat _ _ _ _ _ h.1 h.2.1 h.2.2.1 h.2.2.2.1 hi, h.2.2.2.2 i hi⟩
theorem put_rep {x0 x1 x2 x3 : Nat} {S : Nat → Prop} (h : RepW x0 x1 x2 x3 S) (i : Nat) (hi : i < 256) :
    ∃ y0 y1 y2 y3 : Nat, pat_places_put.f x0 x1 x2 x3 i = some ((y0 : Int), (y1 : Int), (y2 : Int), (y3 : Int)) ∧ RepW y0 y1 y2 y3 (fun j => S j ∨ j = i) := by
  obtain ⟨h0, h1, h2, h3, hb⟩ := h
  unfold pat_places_put.f
  rw [if_pos (by omega)]
  by_cases a : i < 64
  · obtain ⟨e, l⟩ := put_word x0 i h0 a
    refine ⟨x0 ||| 2 ^ i, x1, x2, x3, ?_, l, h1, h2, h3, fun j hj => ?_⟩
    · rw [if_pos (by omega), show ((i : Int) % 64).toNat = i by omega, e]
    · show _ ↔ (S j ∨ j = i)
      rw [← hb j hj]
      unfold bitN
      by_cases c : j < 64
      · simp only [c, if_true, Nat.testBit_or, Nat.testBit_two_pow, Bool.or_eq_true, decide_eq_true_eq]
        constructor <;> (rintro (h | h) <;> simp [h])
      · simp only [c, if_false]
        exact ⟨Or.inl, fun h => h.elim id (fun e => by omega)⟩
  · rw [if_neg (by omega)]
    by_cases b : i < 128
    · obtain ⟨e, l⟩ := put_word x1 (i - 64) h1 (by omega)
      refine ⟨x0, x1 ||| 2 ^ (i - 64), x2, x3, ?_, h0, l, h2, h3, fun j hj => ?_⟩
      · rw [if_pos (by omega), show ((i : Int) % 64).toNat = i - 64 by omega, e]
      · show _ ↔ (S j ∨ j = i)
        rw [← hb j hj]
        unfold bitN
        by_cases c : j < 64
        · simp only [c, if_true]
          exact ⟨Or.inl, fun h => h.elim id (fun e => by omega)⟩
        · by_cases d : j < 128
          · simp only [c, d, if_true, if_false, Nat.testBit_or, Nat.testBit_two_pow, Bool.or_eq_true, decide_eq_true_eq]
            constructor
            · rintro (h | h)
              · exact Or.inl h
              · exact Or.inr (by omega)
            · rintro (h | h)
              · exact Or.inl h
              · exact Or.inr (by omega)
          · simp only [c, d, if_false]
            exact ⟨Or.inl, fun h => h.elim id (fun e => by omega)⟩
    · rw [if_neg (by omega)]
      by_cases c : i < 192
      · obtain ⟨e, l⟩ := put_word x2 (i - 128) h2 (by omega)
        refine ⟨x0, x1, x2 ||| 2 ^ (i - 128), x3, ?_, h0, h1, l, h3, fun j hj => ?_⟩
        · rw [if_pos (by omega), show ((i : Int) % 64).toNat = i - 128 by omega, e]
        · show _ ↔ (S j ∨ j = i)
          rw [← hb j hj]
          unfold bitN
          by_cases d : j < 128
          · by_cases e : j < 64
            · simp only [e, if_true]
              exact ⟨Or.inl, fun h => h.elim id (fun e => by omega)⟩
            · simp only [e, d, if_true, if_false]
              exact ⟨Or.inl, fun h => h.elim id (fun e => by omega)⟩
          · have d' : ¬ j < 64 := by omega
            by_cases f : j < 192
            · simp only [d, d', f, if_true, if_false, Nat.testBit_or, Nat.testBit_two_pow, Bool.or_eq_true, decide_eq_true_eq]
              constructor
              · rintro (h | h)
                · exact Or.inl h
                · exact Or.inr (by omega)
              · rintro (h | h)
                · exact Or.inl h
                · exact Or.inr (by omega)
            · simp only [d, d', f, if_false]
              exact ⟨Or.inl, fun h => h.elim id (fun e => by omega)⟩
      · obtain ⟨e, l⟩ := put_word x3 (i - 192) h3 (by omega)
        refine ⟨x0, x1, x2, x3 ||| 2 ^ (i - 192), ?_, h0, h1, h2, l, fun j hj => ?_⟩
        · rw [if_neg (by omega), if_pos (by omega), show ((i : Int) % 64).toNat = i - 192 by omega, e]
        · show _ ↔ (S j ∨ j = i)
          rw [← hb j hj]
          unfold bitN
          by_cases f : j < 192
          · by_cases d : j < 128
            · by_cases e : j < 64
              · simp only [e, if_true]
                exact ⟨Or.inl, fun h => h.elim id (fun e => by omega)⟩
              · simp only [e, d, if_true, if_false]
                exact ⟨Or.inl, fun h => h.elim id (fun e => by omega)⟩
            · have d' : ¬ j < 64 := by omega
              simp only [d, d', f, if_true, if_false]
              exact ⟨Or.inl, fun h => h.elim id (fun e => by omega)⟩
          · have d : ¬ j < 128 := by omega
            have d' : ¬ j < 64 := by omega
            simp only [d, d', f, if_false, Nat.testBit_or, Nat.testBit_two_pow, Bool.or_eq_true, decide_eq_true_eq]
            constructor
            · rintro (h | h)
              · exact Or.inl h
              · exact Or.inr (by omega)
            · rintro (h | h)
              · exact Or.inl h
              · exact Or.inr (by omega)
theorem with_rep {x0 x1 x2 x3 y0 y1 y2 y3 : Nat} {S T : Nat → Prop} (h : RepW x0 x1 x2 x3 S) (k : RepW y0 y1 y2 y3 T) :
    pat_places_with.f x0 x1 x2 x3 y0 y1 y2 y3 = some (((x0 ||| y0 : Nat) : Int), ((x1 ||| y1 : Nat) : Int), ((x2 ||| y2 : Nat) : Int), ((x3 ||| y3 : Nat) : Int)) ∧ RepW (x0 ||| y0) (x1 ||| y1) (x2 ||| y2) (x3 ||| y3) (fun j => S j ∨ T j) := by
  obtain ⟨h0, h1, h2, h3, hb⟩ := h
  obtain ⟨k0, k1, k2, k3, kb⟩ := k
  refine ⟨?_, or_lt h0 k0, or_lt h1 k1, or_lt h2 k2, or_lt h3 k3, fun j hj => ?_⟩
  · unfold pat_places_with.f
    rw [u64_or_nat _ _ h0 k0, u64_or_nat _ _ h1 k1, u64_or_nat _ _ h2 k2, u64_or_nat _ _ h3 k3]
  · show _ ↔ (S j ∨ T j)
    rw [← hb j hj, ← kb j hj, ← Bool.or_eq_true]
    have : bitN (x0 ||| y0) (x1 ||| y1) (x2 ||| y2) (x3 ||| y3) j = (bitN x0 x1 x2 x3 j || bitN y0 y1 y2 y3 j) := by
      unfold bitN
      repeat' split
      all_goals simp only [Nat.testBit_or]
    rw [this]
theorem word_eq {x y : Nat} (hx : x < 18446744073709551616) (hy : y < 18446744073709551616) (h : ∀ i, i < 64 → x.testBit i = y.testBit i) : x = y := by
  apply Nat.eq_of_testBit_eq
  intro i
  by_cases hi : i < 64
  · exact h i hi
  · have p : 18446744073709551616 ≤ 2 ^ i := Nat.pow_le_pow_right (n := 2) (by omega) (show 64 ≤ i by omega)
    rw [Nat.testBit_lt_two_pow (by omega), Nat.testBit_lt_two_pow (by omega)]
theorem rep_eq {x0 x1 x2 x3 y0 y1 y2 y3 : Nat} {S T : Nat → Prop} (h : RepW x0 x1 x2 x3 S) (k : RepW y0 y1 y2 y3 T) :
    ((x0 : Int) == (y0 : Int) && ((x1 : Int) == (y1 : Int) && ((x2 : Int) == (y2 : Int) && ((x3 : Int) == (y3 : Int))))) = true ↔ ∀ i, i < 256 → (S i ↔ T i) := by
  obtain ⟨h0, h1, h2, h3, hb⟩ := h
  obtain ⟨k0, k1, k2, k3, kb⟩ := k
  simp only [Bool.and_eq_true, beq_iff_eq]
  constructor
  · rintro ⟨e0, e1, e2, e3⟩ i hi
    have e0 : x0 = y0 := by omega
    have e1 : x1 = y1 := by omega
    have e2 : x2 = y2 := by omega
    have e3 : x3 = y3 := by omega
    subst e0 e1 e2 e3
    rw [← hb i hi, ← kb i hi]
  · intro e
    have key : ∀ i, i < 256 → bitN x0 x1 x2 x3 i = bitN y0 y1 y2 y3 i := fun i hi => by
      rw [Bool.eq_iff_iff, hb i hi, kb i hi]; exact e i hi
    refine ⟨?_, ?_, ?_, ?_⟩
    · rw [word_eq h0 k0 (fun i hi => by have := key i (by omega); simpa [bitN, hi] using this)]
    · rw [word_eq h1 k1 (fun i hi => by have := key (i + 64) (by omega); simpa [bitN, show ¬ i + 64 < 64 by omega, show i + 64 < 128 by omega] using this)]
    · rw [word_eq h2 k2 (fun i hi => by have := key (i + 128) (by omega); simpa [bitN, show ¬ i + 128 < 64 by omega, show ¬ i + 128 < 128 by omega, show i + 128 < 192 by omega] using this)]
    · rw [word_eq h3 k3 (fun i hi => by have := key (i + 192) (by omega); simpa [bitN, show ¬ i + 192 < 64 by omega, show ¬ i + 192 < 128 by omega, show ¬ i + 192 < 192 by omega] using this)]
end Go.Proofs.Ytlkjfjlmjgkheaa.H
/- Patterns, plainly: what a pattern takes; where it ends. -/
namespace Go.Proofs.Ytlkjfjlmjgkheaa.H
open Go.RowKit Go.Proofs.YtlkjfjlmjgkheaaW.PrintWords Go.Proofs.YtlkjfjlmjgkheaaW.PrintLast Go.Proofs.YtlkjfjlmjgkheaaW.PrintMore
def inSet (set : List S66) (v : Int) : Bool := set.any fun s => decide (s.f0 ≤ v) && decide (v ≤ s.f1)
inductive StarOf (P : List Int → Prop) : List Int → Prop
  | nil : StarOf P []
  | cons {u v : List Int} : P u → StarOf P v → StarOf P (u ++ v)
theorem StarOf.one {P : List Int → Prop} {u : List Int} (h : P u) : StarOf P u := by
  have := StarOf.cons h StarOf.nil
  rwa [List.append_nil] at this
theorem StarOf.app {P : List Int → Prop} {u v : List Int} (h : StarOf P u) (h' : StarOf P v) : StarOf P (u ++ v) := by
  induction h with
  | nil => exact h'
  | cons a _ ih => rw [List.append_assoc]; exact StarOf.cons a ih
mutual
def Lp : S25 → List Int → Prop
  | ⟨k, set, subs⟩ => fun w => if k = 1 then ∃ v, w = [v] ∧ inSet set v = true else if k = 2 then Lcat subs w else if k = 3 then Lalt subs w else if k = 4 then StarOf (Lhd subs) w else False
def Lcat : List S25 → List Int → Prop
  | [] => fun w => w = []
  | x :: xs => fun w => ∃ u v, w = u ++ v ∧ Lp x u ∧ Lcat xs v
def Lalt : List S25 → List Int → Prop
  | [] => fun _ => False
  | x :: xs => fun w => Lp x w ∨ Lalt xs w
def Lhd : List S25 → List Int → Prop
  | [] => fun _ => False
  | x :: _ => fun w => Lp x w
end
theorem Lp_one {x : S25} (h : x.f0 = 1) : Lp x = fun w => ∃ v, w = [v] ∧ inSet x.f1 v = true := by
  obtain ⟨k, s, l⟩ := x
  rw [Lp]; funext w; exact if_pos h
theorem Lp_cat {x : S25} (h : x.f0 = 2) : Lp x = Lcat x.f2 := by
  obtain ⟨k, s, l⟩ := x
  dsimp only at h ⊢
  subst h
  rw [Lp]; funext w; rfl
theorem Lp_alt {x : S25} (h : x.f0 = 3) : Lp x = Lalt x.f2 := by
  obtain ⟨k, s, l⟩ := x
  dsimp only at h ⊢
  subst h
  rw [Lp]; funext w; rfl
theorem Lp_star {x : S25} (h : x.f0 = 4) : Lp x = StarOf (Lhd x.f2) := by
  obtain ⟨k, s, l⟩ := x
  dsimp only at h ⊢
  subst h
  rw [Lp]; funext w; rfl
def En (path : List Int) (P : List Int → Prop) (S : Nat → Prop) (j : Nat) : Prop :=
  j ≤ path.length ∧ ∃ i, i ≤ path.length ∧ S i ∧ ∃ u, P u ∧ path.drop i = u ++ path.drop j
theorem drop_inj {path : List Int} {i j : Nat} (hi : i ≤ path.length) (hj : j ≤ path.length) (h : path.drop i = path.drop j) : i = j := by
  have := congrArg List.length h
  simp only [List.length_drop] at this
  omega
theorem drop_app {path u v : List Int} {i : Nat} (hi : i ≤ path.length) (h : path.drop i = u ++ v) : i + u.length ≤ path.length ∧ path.drop (i + u.length) = v := by
  have := congrArg List.length h
  simp only [List.length_drop, List.length_append] at this
  refine ⟨by omega, ?_⟩
  rw [← List.drop_drop, h, List.drop_left]
theorem En.congr {path : List Int} {P Q : List Int → Prop} {S T : Nat → Prop} (hP : ∀ u, P u ↔ Q u) (hS : ∀ i, i ≤ path.length → (S i ↔ T i)) (j : Nat) : En path P S j ↔ En path Q T j := by
  constructor
  · rintro ⟨h, i, hi, s, u, p, e⟩; exact ⟨h, i, hi, (hS i hi).1 s, u, (hP u).1 p, e⟩
  · rintro ⟨h, i, hi, s, u, p, e⟩; exact ⟨h, i, hi, (hS i hi).2 s, u, (hP u).2 p, e⟩
theorem En.then_ {path : List Int} {P Q : List Int → Prop} {S : Nat → Prop} (j : Nat) : En path Q (En path P S) j ↔ En path (fun w => ∃ u v, w = u ++ v ∧ P u ∧ Q v) S j := by
  constructor
  · rintro ⟨h, m, hm, ⟨_, i, hi, s, u, p, e⟩, v, q, e'⟩
    exact ⟨h, i, hi, s, u ++ v, ⟨u, v, rfl, p, q⟩, by rw [e, e', List.append_assoc]⟩
  · rintro ⟨h, i, hi, s, _, ⟨u, v, rfl, p, q⟩, e⟩
    rw [List.append_assoc] at e
    obtain ⟨hm, e'⟩ := drop_app hi e
    exact ⟨h, _, hm, ⟨hm, i, hi, s, u, p, by rw [e', e]⟩, v, q, e'⟩
theorem En.nil_ {path : List Int} {S : Nat → Prop} (hS : ∀ i, S i → i ≤ path.length) (j : Nat) : En path (fun w => w = []) S j ↔ S j := by
  constructor
  · rintro ⟨h, i, hi, s, _, rfl, e⟩
    rw [← drop_inj hi h e]; exact s
  · intro s; exact ⟨hS j s, j, hS j s, s, [], rfl, rfl⟩
theorem En.or_ {path : List Int} {P Q : List Int → Prop} {S : Nat → Prop} (j : Nat) : En path (fun w => P w ∨ Q w) S j ↔ En path P S j ∨ En path Q S j := by
  constructor
  · rintro ⟨h, i, hi, s, u, p | p, e⟩
    · exact Or.inl ⟨h, i, hi, s, u, p, e⟩
    · exact Or.inr ⟨h, i, hi, s, u, p, e⟩
  · rintro (⟨h, i, hi, s, u, p, e⟩ | ⟨h, i, hi, s, u, p, e⟩)
    · exact ⟨h, i, hi, s, u, Or.inl p, e⟩
    · exact ⟨h, i, hi, s, u, Or.inr p, e⟩
theorem En.false_ {path : List Int} {S : Nat → Prop} (j : Nat) : ¬ En path (fun _ => False) S j := by
  rintro ⟨_, _, _, _, _, p, _⟩; exact p
theorem En.one_ {path : List Int} {Q : Int → Prop} {S : Nat → Prop} (j : Nat) : En path (fun w => ∃ v, w = [v] ∧ Q v) S j ↔ ∃ i, ∃ h : i < path.length, j = i + 1 ∧ S i ∧ Q path[i] := by
  constructor
  · rintro ⟨h, i, hi, s, _, ⟨v, rfl, q⟩, e⟩
    have hl : i < path.length := by
      have := congrArg List.length e
      simp only [List.length_drop, List.length_append, List.length_singleton] at this
      omega
    rw [List.drop_eq_getElem_cons hl] at e
    injection e with e1 e2
    exact ⟨i, hl, (drop_inj (by omega) h e2).symm, s, by rw [e1]; exact q⟩
  · rintro ⟨i, h, rfl, s, q⟩
    exact ⟨h, i, by omega, s, [path[i]], ⟨_, rfl, q⟩, List.drop_eq_getElem_cons h⟩
theorem En.sub {path : List Int} {P : List Int → Prop} {S : Nat → Prop} {j : Nat} (h : En path P S j) : j ≤ path.length := h.1
theorem En.star_ {path : List Int} {P : List Int → Prop} {S T : Nat → Prop} (h0 : ∀ i, S i → T i) (h1 : ∀ i, T i → En path (StarOf P) S i) (h2 : ∀ j, En path P T j → T j) (j : Nat) : T j ↔ En path (StarOf P) S j := by
  refine ⟨h1 j, ?_⟩
  rintro ⟨h, i, hi, s, u, p, e⟩
  have key : ∀ u, StarOf P u → ∀ i, i ≤ path.length → T i → path.drop i = u ++ path.drop j → T j := by
    intro u p
    induction p with
    | nil => intro i hi t e; rw [← drop_inj hi h (by simpa using e)]; exact t
    | cons a _ ih =>
      intro i hi t e
      rw [List.append_assoc] at e
      obtain ⟨hm, e'⟩ := drop_app hi e
      exact ih _ hm (h2 _ ⟨hm, i, hi, t, _, a, by rw [e', e]⟩) e'
  exact key u p i hi (h0 i s) e
theorem En.more {path : List Int} {P : List Int → Prop} {S T : Nat → Prop} (h1 : ∀ i, T i → En path (StarOf P) S i) {j : Nat} (h : En path P T j) : En path (StarOf P) S j := by
  obtain ⟨hj, m, hm, t, v, p, e⟩ := h
  obtain ⟨_, i, hi, s, u, p', e'⟩ := h1 m t
  exact ⟨hj, i, hi, s, u ++ v, p'.app (StarOf.one p), by rw [e', e, List.append_assoc]⟩
theorem En.here {path : List Int} {P : List Int → Prop} {S : Nat → Prop} (hS : ∀ i, S i → i ≤ path.length) {i : Nat} (h : S i) : En path (StarOf P) S i :=
  ⟨hS i h, i, hS i h, h, [], StarOf.nil, rfl⟩
theorem En.whole {path : List Int} {P : List Int → Prop} : En path P (fun i => i = 0) path.length ↔ P path := by
  constructor
  · rintro ⟨_, i, _, rfl, u, p, e⟩
    rw [List.drop_length, List.append_nil, List.drop_zero] at e
    rw [e]; exact p
  · intro p
    exact ⟨Nat.le_refl _, 0, Nat.zero_le _, rfl, path, p, by simp⟩
end Go.Proofs.Ytlkjfjlmjgkheaa.H
/- Patterns, plainly: the program's ends of a path. -/
namespace Go.Proofs.Ytlkjfjlmjgkheaa.H
open Go.RowKit Go.Proofs.YtlkjfjlmjgkheaaW.PrintWords Go.Proofs.YtlkjfjlmjgkheaaW.PrintLast Go.Proofs.YtlkjfjlmjgkheaaW.PrintMore Go.Proofs.YtlkjfjlmjgkheaaRd
theorem fitsL_mem {l : List S25} (h : fitsL l = true) : ∀ y ∈ l, fitsP y = true := by
  rw [fitsL_any] at h
  intro y hy
  by_cases c : fitsP y = true
  · exact c
  · have : (l.any fun x => !fitsP x) = true := List.any_eq_true.2 ⟨y, hy, by simp [c]⟩
    rw [this] at h; simp at h
theorem fits_cases {x : S25} (h : fitsP x = true) : (x.f0 = 1) ∨ ((x.f0 = 2 ∨ x.f0 = 3 ∨ (x.f0 = 4 ∧ x.f2.length = 1)) ∧ ∀ y ∈ x.f2, fitsP y = true) := by
  obtain ⟨a, b, c⟩ := x
  rw [fitsP_eq] at h
  dsimp only
  by_cases h1 : a = 1
  · exact Or.inl h1
  · rw [if_neg h1] at h
    by_cases h2 : a = 2 ∨ a = 3 ∨ a = 4
    · rw [if_pos h2] at h
      simp only [Bool.and_eq_true, Bool.or_eq_true, Bool.not_eq_true', decide_eq_true_eq, decide_eq_false_iff_not] at h
      obtain ⟨_, h4, h5⟩ := h
      refine Or.inr ⟨?_, fitsL_mem h5⟩
      rcases h2 with h2 | h2 | h2
      · exact Or.inl h2
      · exact Or.inr (Or.inl h2)
      · exact Or.inr (Or.inr ⟨h2, by rcases h4 with h4 | h4 <;> omega⟩)
    · rw [if_neg h2] at h; cases h
theorem one_loop (path : List Int) (hp : path.length ≤ 255) (a : Int) (set : List S66) (subs : List S25) {x0 x1 x2 x3 : Nat} {S : Nat → Prop} (hr : RepW x0 x1 x2 x3 S) (m : Nat) :
    ∀ (j : Nat), j + m = path.length → ∀ (z0 z1 z2 z3 : Nat), RepW z0 z1 z2 z3 (fun p => ∃ i, ∃ h : i < path.length, i < j ∧ p = i + 1 ∧ S i ∧ inSet set path[i] = true) →
    ∃ y0 y1 y2 y3 : Nat, Ev (fun k => pat_ends.l0 k path (path.length : Int) (j : Int) a set subs x0 x1 x2 x3 z0 z1 z2 z3) ((y0 : Int), (y1 : Int), (y2 : Int), (y3 : Int)) ∧ RepW y0 y1 y2 y3 (En path (fun w => ∃ v, w = [v] ∧ inSet set v = true) S) := by
  induction m with
  | zero =>
    intro j hj z0 z1 z2 z3 hz
    refine ⟨z0, z1, z2, z3, ?_, hz.congr fun p hp' => ?_⟩
    · refine Ev.step (by intro k; rw [pat_ends.l0]) ?_
      exact Ev.ite_neg (by omega) (Ev.now _)
    · rw [En.one_]
      constructor
      · rintro ⟨i, h, _, e, s, q⟩; exact ⟨i, h, e, s, q⟩
      · rintro ⟨i, h, e, s, q⟩; exact ⟨i, h, by omega, e, s, q⟩
  | succ m ih =>
    intro j hj z0 z1 z2 z3 hz
    have hlt : j < path.length := by omega
    obtain ⟨b, hb, hbS⟩ := has_rep hr j (by omega)
    have skip : (¬ (S j ∧ inSet set path[j] = true)) → RepW z0 z1 z2 z3 (fun p => ∃ i, ∃ h : i < path.length, i < j + 1 ∧ p = i + 1 ∧ S i ∧ inSet set path[i] = true) := fun hn => hz.congr fun p _ => by
      constructor
      · rintro ⟨i, h, l, e, s, q⟩; exact ⟨i, h, by omega, e, s, q⟩
      · rintro ⟨i, h, l, e, s, q⟩
        by_cases c : i = j
        · subst c; exact absurd ⟨s, q⟩ hn
        · exact ⟨i, h, by omega, e, s, q⟩
    by_cases hs : S j
    · have hb1 : b = true := hbS.2 hs
      subst hb1
      by_cases hq : inSet set path[j] = true
      · obtain ⟨u0, u1, u2, u3, hu, hur⟩ := put_rep hz (j + 1) (by omega)
        obtain ⟨y0, y1, y2, y3, hy, hyr⟩ := ih (j + 1) (by omega) u0 u1 u2 u3 (hur.congr fun p _ => by
          constructor
          · rintro (⟨i, h, l, e, s, q⟩ | e)
            · exact ⟨i, h, by omega, e, s, q⟩
            · exact ⟨j, hlt, by omega, e, hs, hq⟩
          · rintro ⟨i, h, l, e, s, q⟩
            by_cases c : i = j
            · subst c; exact Or.inr e
            · exact Or.inl ⟨i, h, by omega, e, s, q⟩)
        refine ⟨y0, y1, y2, y3, ?_, hyr⟩
        refine Ev.step (by intro k; rw [pat_ends.l0]) ?_
        refine Ev.ite_pos (by omega) (Ev.ite_pos (by omega) (Ev.ite_pos (by omega) ?_))
        refine Ev.bind1 _ (hb ▸ Ev.now _) (Ev.ite_pos rfl ?_)
        rw [rdn path j hlt]
        refine Ev.bind1 (inSet set path[j]) (Ev.now _) (Ev.ite_pos hq ?_)
        rw [w64s j (by omega)]
        refine Ev.bind1 _ (hu ▸ Ev.now _) ?_
        exact hy
      · obtain ⟨y0, y1, y2, y3, hy, hyr⟩ := ih (j + 1) (by omega) z0 z1 z2 z3 (skip (fun h => hq h.2))
        refine ⟨y0, y1, y2, y3, ?_, hyr⟩
        refine Ev.step (by intro k; rw [pat_ends.l0]) ?_
        refine Ev.ite_pos (by omega) (Ev.ite_pos (by omega) (Ev.ite_pos (by omega) ?_))
        refine Ev.bind1 _ (hb ▸ Ev.now _) (Ev.ite_pos rfl ?_)
        rw [rdn path j hlt]
        refine Ev.bind1 (inSet set path[j]) (Ev.now _) (Ev.ite_neg hq ?_)
        rw [w64s j (by omega)]
        exact hy
    · obtain ⟨y0, y1, y2, y3, hy, hyr⟩ := ih (j + 1) (by omega) z0 z1 z2 z3 (skip (fun h => hs h.1))
      refine ⟨y0, y1, y2, y3, ?_, hyr⟩
      refine Ev.step (by intro k; rw [pat_ends.l0]) ?_
      refine Ev.ite_pos (by omega) (Ev.ite_pos (by omega) (Ev.ite_pos (by omega) ?_))
      refine Ev.bind1 _ (hb ▸ Ev.now _) (Ev.ite_neg (fun h => hs (hbS.1 h)) ?_)
      rw [w64s j (by omega)]
      exact hy
def EndsOk (path : List Int) (x : S25) : Prop := ∀ (x0 x1 x2 x3 : Nat) (S : Nat → Prop), RepW x0 x1 x2 x3 S → (∀ i, S i → i ≤ path.length) →
  ∃ y0 y1 y2 y3 : Nat, Ev (fun k => pat_ends.f k x.f0 x.f1 x.f2 path x0 x1 x2 x3) ((y0 : Int), (y1 : Int), (y2 : Int), (y3 : Int)) ∧ RepW y0 y1 y2 y3 (En path (Lp x) S)
theorem cat_loop (path : List Int) (subs : List S25) (hl : subs.length * 56 ≤ 140737488351232) (ih : ∀ y ∈ subs, EndsOk path y) (m : Nat) :
    ∀ (j : Nat), j + m = subs.length → ∀ (z0 z1 z2 z3 : Nat) (S : Nat → Prop), RepW z0 z1 z2 z3 S → (∀ i, S i → i ≤ path.length) →
    ∃ y0 y1 y2 y3 : Nat, Ev (fun k => pat_ends.l1 k path subs (subs.length : Int) (j : Int) z0 z1 z2 z3) ((y0 : Int), (y1 : Int), (y2 : Int), (y3 : Int)) ∧ RepW y0 y1 y2 y3 (En path (Lcat (subs.drop j)) S) := by
  induction m with
  | zero =>
    intro j hj z0 z1 z2 z3 S hz hS
    refine ⟨z0, z1, z2, z3, ?_, hz.congr fun p hp' => ?_⟩
    · refine Ev.step (by intro k; rw [pat_ends.l1]) ?_
      exact Ev.ite_neg (by omega) (Ev.now _)
    · rw [List.drop_of_length_le (by omega), Lcat, En.nil_ hS]
  | succ m im =>
    intro j hj z0 z1 z2 z3 S hz hS
    have hlt : j < subs.length := by omega
    obtain ⟨u0, u1, u2, u3, hu, hur⟩ := ih subs[j] (List.getElem_mem hlt) z0 z1 z2 z3 S hz hS
    obtain ⟨y0, y1, y2, y3, hy, hyr⟩ := im (j + 1) (by omega) u0 u1 u2 u3 _ hur (fun i h => h.1)
    refine ⟨y0, y1, y2, y3, ?_, hyr.congr fun p _ => ?_⟩
    · refine Ev.step (by intro k; rw [pat_ends.l1]) ?_
      refine Ev.ite_pos (by omega) (Ev.ite_pos (by omega) (Ev.ite_pos (by omega) ?_))
      rw [rd25n subs j hlt, w64s j (by omega)]
      exact Ev.bind1 _ hu hy
    · rw [En.then_, dropc subs j hlt, Lcat]
theorem alt_loop (path : List Int) (subs : List S25) (hl : subs.length * 56 ≤ 140737488351232) (ih : ∀ y ∈ subs, EndsOk path y) {x0 x1 x2 x3 : Nat} {S : Nat → Prop} (hr : RepW x0 x1 x2 x3 S) (hS : ∀ i, S i → i ≤ path.length) (m : Nat) :
    ∀ (j : Nat), j + m = subs.length → ∀ (z0 z1 z2 z3 : Nat) (Z : Nat → Prop), RepW z0 z1 z2 z3 Z →
    ∃ y0 y1 y2 y3 : Nat, Ev (fun k => pat_ends.l2 k path subs (subs.length : Int) (j : Int) x0 x1 x2 x3 z0 z1 z2 z3) ((y0 : Int), (y1 : Int), (y2 : Int), (y3 : Int)) ∧ RepW y0 y1 y2 y3 (fun p => Z p ∨ En path (Lalt (subs.drop j)) S p) := by
  induction m with
  | zero =>
    intro j hj z0 z1 z2 z3 Z hz
    refine ⟨z0, z1, z2, z3, ?_, hz.congr fun p hp' => ?_⟩
    · refine Ev.step (by intro k; rw [pat_ends.l2]) ?_
      exact Ev.ite_neg (by omega) (Ev.now _)
    · rw [List.drop_of_length_le (by omega), Lalt]
      exact ⟨Or.inl, fun h => h.elim id (fun h => absurd h (En.false_ p))⟩
  | succ m im =>
    intro j hj z0 z1 z2 z3 Z hz
    have hlt : j < subs.length := by omega
    obtain ⟨u0, u1, u2, u3, hu, hur⟩ := ih subs[j] (List.getElem_mem hlt) x0 x1 x2 x3 S hr hS
    obtain ⟨hw, hwr⟩ := with_rep hz hur
    obtain ⟨y0, y1, y2, y3, hy, hyr⟩ := im (j + 1) (by omega) _ _ _ _ _ hwr
    refine ⟨y0, y1, y2, y3, ?_, hyr.congr fun p _ => ?_⟩
    · refine Ev.step (by intro k; rw [pat_ends.l2]) ?_
      refine Ev.ite_pos (by omega) (Ev.ite_pos (by omega) (Ev.ite_pos (by omega) ?_))
      rw [rd25n subs j hlt, w64s j (by omega)]
      refine Ev.bind1 _ hu ?_
      refine Ev.bind1 _ (hw ▸ Ev.now _) ?_
      exact hy
    · rw [dropc subs j hlt, Lalt, En.or_, or_assoc]
theorem star_loop (path : List Int) (hp : path.length ≤ 255) (a : Int) (set : List S66) (y : S25) (ih : EndsOk path y) {S : Nat → Prop} (hS : ∀ i, S i → i ≤ path.length) (m : Nat) :
    ∀ (z0 z1 z2 z3 : Nat), z0 + z1 + z2 + z3 + m = 73786976294838206464 → ∀ (T : Nat → Prop), RepW z0 z1 z2 z3 T → (∀ i, S i → T i) → (∀ i, T i → En path (StarOf (Lp y)) S i) →
    ∃ y0 y1 y2 y3 : Nat, Ev (fun k => pat_ends.l3 k path a set [y] z0 z1 z2 z3) ((y0 : Int), (y1 : Int), (y2 : Int), (y3 : Int)) ∧ RepW y0 y1 y2 y3 (En path (StarOf (Lp y)) S) := by
  induction m using Nat.strongRecOn with
  | ind m im =>
    intro z0 z1 z2 z3 hm T hz h0 h1
    obtain ⟨u0, u1, u2, u3, hu, hur⟩ := ih z0 z1 z2 z3 T hz (fun i t => (h1 i t).1)
    obtain ⟨hw, hwr⟩ := with_rep hz hur
    have eqv := rep_eq hwr hz
    by_cases c : ∀ i, i < 256 → ((T i ∨ En path (Lp y) T i) ↔ T i)
    · refine ⟨z0, z1, z2, z3, ?_, hz.congr fun p _ => ?_⟩
      · refine Ev.step (by intro k; rw [pat_ends.l3]) ?_
        refine Ev.ite_pos (by simp) ?_
        rw [show rd_T25 [y] 0 = y from rfl]
        refine Ev.bind1 _ hu ?_
        refine Ev.bind1 _ (hw ▸ Ev.now _) ?_
        exact Ev.ite_pos (eqv.2 c) (Ev.now _)
      · exact En.star_ h0 h1 (fun j hj => (c j (by have := hj.1; omega)).1 (Or.inr hj)) p
    · have ne : ¬ (z0 ||| u0 = z0 ∧ z1 ||| u1 = z1 ∧ z2 ||| u2 = z2 ∧ z3 ||| u3 = z3) := by
        rintro ⟨e0, e1, e2, e3⟩
        apply c
        apply eqv.1
        rw [e0, e1, e2, e3]
        simp
      have l0 : z0 ≤ z0 ||| u0 := Nat.left_le_or
      have l1 : z1 ≤ z1 ||| u1 := Nat.left_le_or
      have l2 : z2 ≤ z2 ||| u2 := Nat.left_le_or
      have l3 : z3 ≤ z3 ||| u3 := Nat.left_le_or
      have b0 := hwr.1
      have b1 := hwr.2.1
      have b2 := hwr.2.2.1
      have b3 := hwr.2.2.2.1
      have lt : 73786976294838206464 - ((z0 ||| u0) + (z1 ||| u1) + (z2 ||| u2) + (z3 ||| u3)) < m := by omega
      obtain ⟨y0, y1, y2, y3, hy, hyr⟩ := im _ lt (z0 ||| u0) (z1 ||| u1) (z2 ||| u2) (z3 ||| u3) (by omega) _ hwr (fun i s => Or.inl (h0 i s)) (fun i t => t.elim (h1 i) (fun e => En.more h1 e))
      refine ⟨y0, y1, y2, y3, ?_, hyr⟩
      refine Ev.step (by intro k; rw [pat_ends.l3]) ?_
      refine Ev.ite_pos (by simp) ?_
      rw [show rd_T25 [y] 0 = y from rfl]
      refine Ev.bind1 _ hu ?_
      refine Ev.bind1 _ (hw ▸ Ev.now _) ?_
      exact Ev.ite_neg (fun h => c (eqv.1 h)) hy
theorem ends_ev (path : List Int) (hp : path.length ≤ 255) (x : S25) (hx : ok25 x) (hf : fitsP x = true) : EndsOk path x := by
  revert hx hf
  refine ind25 (P := fun x => ok25 x → fitsP x = true → EndsOk path x) ?_ x
  intro x ih hx hf x0 x1 x2 x3 S hr hS
  obtain ⟨hl, hs⟩ := ok25_subs hx
  rcases fits_cases hf with h | ⟨h, hf⟩
  · obtain ⟨y0, y1, y2, y3, hy, hyr⟩ := one_loop path hp 1 x.f1 x.f2 hr path.length 0 (by omega) 0 0 0 0 (RepW.none.congr fun p _ => by simp)
    refine ⟨y0, y1, y2, y3, ?_, by rw [Lp_one h]; exact hyr⟩
    rw [h]
    refine Ev.step (by intro k; rw [pat_ends.f]) ?_
    exact Ev.ite_pos rfl hy
  · have ih' : ∀ y ∈ x.f2, EndsOk path y := fun y hy => ih y hy (hs y hy) (hf y hy)
    rcases h with h | h | ⟨h, h1⟩
    · obtain ⟨y0, y1, y2, y3, hy, hyr⟩ := cat_loop path x.f2 hl ih' x.f2.length 0 (by omega) x0 x1 x2 x3 S hr hS
      refine ⟨y0, y1, y2, y3, ?_, by rw [Lp_cat h]; exact hyr⟩
      rw [h]
      refine Ev.step (by intro k; rw [pat_ends.f]) ?_
      exact Ev.ite_neg (by decide) (Ev.ite_pos rfl hy)
    · obtain ⟨y0, y1, y2, y3, hy, hyr⟩ := alt_loop path x.f2 hl ih' hr hS x.f2.length 0 (by omega) 0 0 0 0 _ RepW.none
      refine ⟨y0, y1, y2, y3, ?_, by rw [Lp_alt h]; exact hyr.congr fun p _ => by simp⟩
      rw [h]
      refine Ev.step (by intro k; rw [pat_ends.f]) ?_
      exact Ev.ite_neg (by decide) (Ev.ite_neg (by decide) (Ev.ite_pos rfl hy))
    · obtain ⟨y, hy1⟩ := List.length_eq_one_iff.1 h1
      rw [hy1] at ih'
      have b0 := hr.1
      have b1 := hr.2.1
      have b2 := hr.2.2.1
      have b3 := hr.2.2.2.1
      obtain ⟨y0, y1, y2, y3, hy, hyr⟩ := star_loop path hp 4 x.f1 y (ih' y (by simp)) hS (73786976294838206464 - (x0 + x1 + x2 + x3)) x0 x1 x2 x3 (by omega) S hr (fun _ h => h) (fun i h => En.here hS h)
      refine ⟨y0, y1, y2, y3, ?_, by rw [Lp_star h, hy1]; exact hyr.congr fun p _ => by simp only [Lhd]⟩
      rw [h, hy1]
      refine Ev.step (by intro k; rw [pat_ends.f]) ?_
      exact Ev.ite_neg (by decide) (Ev.ite_neg (by decide) (Ev.ite_neg (by decide) (Ev.ite_pos rfl hy)))
end Go.Proofs.Ytlkjfjlmjgkheaa.H
/- Patterns, plainly: whether a pattern is right, and what it takes, by the program. -/
namespace Go.Proofs.Ytlkjfjlmjgkheaa.H
open Go.RowKit Go.Proofs.YtlkjfjlmjgkheaaW.PrintWords Go.Proofs.YtlkjfjlmjgkheaaW.PrintLast Go.Proofs.YtlkjfjlmjgkheaaW.PrintMore Go.Proofs.YtlkjfjlmjgkheaaRd
def rightB (x : S25) : Bool := decide (partsP x ≤ 200) && (decide (deepP x ≤ 40) && fitsP x)
theorem rightB_iff (x : S25) : rightB x = true ↔ partsP x ≤ 200 ∧ deepP x ≤ 40 ∧ fitsP x = true := by
  simp only [rightB, Bool.and_eq_true, decide_eq_true_eq]
theorem right_ev (x : S25) (hx : ok25 x) (hp : partsP x ≤ 1000000) : Ev (fun k => pat_Right.f k x.f0 x.f1 x.f2) (rightB x) := by
  unfold pat_Right.f
  refine Ev.bind1 _ (psize x hx hp) ?_
  dsimp only
  unfold rightB
  by_cases h : partsP x ≤ 200
  · refine Ev.ite_pos (by omega) ?_
    rw [decide_eq_true h, Bool.true_and]
    by_cases h' : deepP x ≤ 40
    · refine Ev.ite_pos (by omega) ?_
      rw [decide_eq_true h', Bool.true_and]
      refine Ev.bind1 (fitsP x) ?_ (Ev.now _)
      show Ev (fun _ => some (fitsP ⟨x.f0, x.f1, x.f2⟩)) _
      rw [eta25]
      exact Ev.now _
    · rw [decide_eq_false h', Bool.false_and]
      exact Ev.ite_neg (by omega) (Ev.now _)
  · rw [decide_eq_false h, Bool.false_and]
    exact Ev.ite_neg (by omega) (Ev.now _)
def Takes (x : S25) (path : List Int) (b : Bool) : Prop := b = true ↔ rightB x = true ∧ path.length ≤ 255 ∧ Lp x path
theorem match_ev (x : S25) (hx : ok25 x) (hp : partsP x ≤ 1000000) (path : List Int) : ∃ b, Ev (fun k => pat_Match.f k x.f0 x.f1 x.f2 path) b ∧ Takes x path b := by
  by_cases hr : rightB x = true
  · by_cases hl : path.length ≤ 255
    · obtain ⟨u0, u1, u2, u3, hu, hur⟩ := put_rep RepW.none 0 (by omega)
      obtain ⟨y0, y1, y2, y3, hy, hyr⟩ := ends_ev path hl x hx ((rightB_iff x).1 hr).2.2 u0 u1 u2 u3 (fun i => i = 0) (hur.congr fun i _ => by simp) (fun i h => by omega)
      obtain ⟨b, hb, hbS⟩ := has_rep hyr path.length (by omega)
      refine ⟨b, ?_, hbS.trans ?_⟩
      · unfold pat_Match.f
        refine Ev.bind1 _ (right_ev x hx hp) (Ev.ite_pos hr ?_)
        rw [decide_eq_false (by omega)]
        refine Ev.step (by intro k; rw [pat_Match.j0]) ?_
        refine Ev.ite_neg (by decide) ?_
        refine Ev.bind1 _ (hu ▸ Ev.now _) ?_
        refine Ev.bind1 _ hy ?_
        refine Ev.bind1 _ (hb ▸ Ev.now _) (Ev.now _)
      · rw [En.whole]
        exact ⟨fun h => ⟨hr, hl, h⟩, fun h => h.2.2⟩
    · refine ⟨false, ?_, by simp [Takes, hl]⟩
      unfold pat_Match.f
      refine Ev.bind1 _ (right_ev x hx hp) (Ev.ite_pos hr ?_)
      rw [decide_eq_true (by omega)]
      refine Ev.step (by intro k; rw [pat_Match.j0]) ?_
      exact Ev.ite_pos rfl (Ev.now _)
  · refine ⟨false, ?_, by simp [Takes, hr]⟩
    unfold pat_Match.f
    refine Ev.bind1 _ (right_ev x hx hp) (Ev.ite_neg hr ?_)
    refine Ev.step (by intro k; rw [pat_Match.j0]) ?_
    exact Ev.ite_pos rfl (Ev.now _)
theorem takes_eq {x : S25} {path : List Int} {b c : Bool} (h : Takes x path b) (h' : Takes x path c) : b = c := by
  unfold Takes at h h'
  rw [Bool.eq_iff_iff, h, h']
end Go.Proofs.Ytlkjfjlmjgkheaa.H
/- Patterns, plainly: the reference's answers: right, and what a pattern takes. -/
namespace Go.Proofs.Ytlkjfjlmjgkheaa.H
open Go.RowKit Go.Proofs.YtlkjfjlmjgkheaaW.PrintWords Go.Proofs.YtlkjfjlmjgkheaaW.PrintLast Go.Proofs.YtlkjfjlmjgkheaaW.PrintMore Go.Proofs.YtlkjfjlmjgkheaaRd
end Go.Proofs.Ytlkjfjlmjgkheaa.H
/- Conditions, plainly: lists of entries, boxes and communities. -/
namespace Go.Proofs.Ytlkjfjlmjgkheaa.H
open Go.RowKit Go.Proofs.YtlkjfjlmjgkheaaW.PrintWords Go.Proofs.YtlkjfjlmjgkheaaW.PrintLast Go.Proofs.YtlkjfjlmjgkheaaW.PrintMore Go.Proofs.YtlkjfjlmjgkheaaRd
def firstL {α : Type} (p d : α → Bool) : List α → Bool
  | [] => false
  | x :: xs => if p x then !d x else firstL p d xs
theorem firstP_list {α : Type} (p d : α → Bool) (l : List α) (rd : Nat → α) (hrd : ∀ i (h : i < l.length), rd i = l[i]) : ∀ m i, i + m = l.length → firstP (fun i => p (rd i)) (fun i => d (rd i)) m i = firstL p d (l.drop i) := by
  intro m
  induction m with
  | zero => intro i hi; rw [List.drop_of_length_le (by omega)]; rfl
  | succ m ih =>
    intro i hi
    have h : i < l.length := by omega
    rw [firstP, dropc l i h, firstL, ih (i + 1) (by omega), hrd i h]
theorem firstL_congr {α : Type} {p q d : α → Bool} {l : List α} (h : ∀ x ∈ l, p x = q x) : firstL p d l = firstL q d l := by
  induction l with
  | nil => rfl
  | cons x xs ih => rw [firstL, firstL, h x (by simp), ih (fun y hy => h y (by simp [hy]))]
def u32 (n : Int) : Prop := 0 ≤ n ∧ n < 4294967296
theorem planeIn {lo hi c : Int} (h1 : u32 lo) (h2 : u32 hi) (h3 : u32 c) : plane_In.f lo hi c = some (inBox lo hi c) := by
  unfold plane_In.f plane_point.f
  unfold u32 at h1 h2 h3
  rw [if_pos h3, if_pos h1, if_pos h2]
  show (plane_within.f c lo hi).bind _ = _
  unfold plane_within.f
  rw [if_pos ⟨h1, h2, h3⟩]
  rfl
def hasB (comms : List Int) (b : S76) : Bool := comms.any fun c => inBox b.f0 b.f1 c
def hasA (comms : List Int) (x : S64) : Bool := x.f1.all fun b => hasB comms b
theorem hasBox_eq {comms : List Int} {b : S76} (hc : ∀ c ∈ comms, u32 c) (hb : u32 b.f0 ∧ u32 b.f1) : hasBox comms b = some (hasB comms b) := by
  have key : ∀ c ∈ comms, boxIn b.f0 b.f1 c = some (inBox b.f0 b.f1 c) := fun c h => planeIn hb.1 hb.2 (hc c h)
  unfold hasBox cond_has.f
  have ha : allS (boxIn b.f0 b.f1) comms = true := List.all_eq_true.2 (fun c h => by rw [key c h]; rfl)
  rw [if_pos ha]
  congr 1
  unfold hasB
  rw [Bool.eq_iff_iff, List.any_eq_true, List.any_eq_true]
  constructor
  · rintro ⟨c, h, q⟩; exact ⟨c, h, by rw [key c h] at q; exact q⟩
  · rintro ⟨c, h, q⟩; exact ⟨c, h, by rw [key c h]; exact q⟩
theorem hasAll_eq {comms : List Int} {x : S64} (hc : ∀ c ∈ comms, u32 c) (hx : ∀ b ∈ x.f1, u32 b.f0 ∧ u32 b.f1) : hasAll comms x = hasA comms x := by
  unfold hasAll hasA
  rw [Bool.eq_iff_iff, Bool.not_eq_true', List.any_eq_false, List.all_eq_true]
  constructor
  · intro h b hb
    have := h b hb
    rw [hasBox_eq hc (hx b hb)] at this
    simpa using this
  · intro h b hb
    rw [hasBox_eq hc (hx b hb)]
    simpa using h b hb
theorem rd64n (xs : List S64) (j : Nat) (h : j < xs.length) : rd_T64 xs (j : Int) = xs[j] := by
  simp [rd_T64, List.getD_eq_getElem?_getD, List.getElem?_eq_getElem h]
theorem rd61n (xs : List S61) (j : Nat) (h : j < xs.length) : rd_T61 xs (j : Int) = xs[j] := by
  simp [rd_T61, List.getD_eq_getElem?_getD, List.getElem?_eq_getElem h]
theorem comms_eq {l : List S64} {comms : List Int} (hc : ∀ c ∈ comms, u32 c) (hl : ∀ x ∈ l, ∀ b ∈ x.f1, u32 b.f0 ∧ u32 b.f1) : cond_TakesComms.f l comms = some (firstL (hasA comms) (fun x => x.f0) l) := by
  unfold cond_TakesComms.f
  have ha : (l.all fun x => allS (hasBox comms) x.f1) = true := List.all_eq_true.2 (fun x hx => List.all_eq_true.2 (fun b hb => by rw [hasBox_eq hc (hl x hx b hb)]; rfl))
  rw [if_pos ha]
  congr 1
  rw [firstP_list (hasAll comms) (fun x => x.f0) l (fun i => rd_T64 l (i : Int)) (fun i h => rd64n l i h) l.length 0 (by omega), List.drop_zero]
  exact firstL_congr (fun x hx => hasAll_eq hc (hl x hx))
end Go.Proofs.Ytlkjfjlmjgkheaa.H
/- Conditions, plainly: the reference's lists. -/
namespace Go.Proofs.Ytlkjfjlmjgkheaa.H
open Go.RowKit Go.Proofs.YtlkjfjlmjgkheaaW.PrintWords Go.Proofs.YtlkjfjlmjgkheaaW.PrintLast Go.Proofs.YtlkjfjlmjgkheaaW.PrintMore Go.Proofs.YtlkjfjlmjgkheaaRd
end Go.Proofs.Ytlkjfjlmjgkheaa.H
/- Conditions, plainly: lists of patterns, what is great, the examples. -/
namespace Go.Proofs.Ytlkjfjlmjgkheaa.H
open Go.RowKit Go.Proofs.YtlkjfjlmjgkheaaW.PrintWords Go.Proofs.YtlkjfjlmjgkheaaW.PrintLast Go.Proofs.YtlkjfjlmjgkheaaW.PrintMore Go.Proofs.YtlkjfjlmjgkheaaRd
set_option maxRecDepth 100000 in
theorem alive11 : Ev (fun k => dragomanlaw11_alive.f k) true := Ev.of (k := 60) (fun k => dragomanlaw11_alive.mono k) (by kernel_rfl)
theorem u32_of {a : Int} (h : (Lit.int .u32 a).wf = true) : u32 a := by
  simp only [Lit.wf, IntKind.min, IntKind.max, IntKind.signed, IntKind.bits, Bool.and_eq_true] at h
  unfold u32
  obtain ⟨h1, h2⟩ := h
  exact ⟨by simpa using h1, by have := h2; simp at this; omega⟩
theorem takeB_ex (path : List Int) : ∃ g : S61 → Bool, ∀ x, Takes x.f1 path (g x) :=
  ⟨fun x => @decide (rightB x.f1 = true ∧ path.length ≤ 255 ∧ Lp x.f1 path) (Classical.propDecidable _), fun x => by unfold Takes; exact @decide_eq_true_iff _ (Classical.propDecidable _)⟩
theorem pat_in {path : List Int} {g : S61 → Bool} (hg : ∀ x, Takes x.f1 path (g x)) (x : S61) (hx : ok25 x.f1) (hp : partsP x.f1 ≤ 1000000) : Ev (fun k => patIn k path x) (g x) := by
  obtain ⟨b, e, t⟩ := match_ev x.f1 hx hp path
  rw [takes_eq (hg x) t]
  exact e
theorem all_in {path : List Int} {g : S61 → Bool} (l : List S61) (h : ∀ x ∈ l, Ev (fun k => patIn k path x) (g x)) : ∃ K, ∀ k, K ≤ k → ∀ x ∈ l, patIn k path x = some (g x) := by
  induction l with
  | nil => exact ⟨0, fun _ _ x hx => by simp at hx⟩
  | cons y ys ih =>
    obtain ⟨K1, h1⟩ := h y (by simp)
    obtain ⟨K2, h2⟩ := ih (fun x hx => h x (by simp [hx]))
    refine ⟨max K1 K2, fun k hk x hx => ?_⟩
    rcases List.mem_cons.1 hx with rfl | hx
    · exact h1 k (by omega)
    · exact h2 k (by omega) x hx
theorem path_ev {path : List Int} {g : S61 → Bool} (l : List S61) (h : ∀ x ∈ l, Ev (fun k => patIn k path x) (g x)) : Ev (fun k => cond_TakesPath.f k l path) (firstL g (fun x => x.f0) l) := by
  obtain ⟨K, hK⟩ := all_in l h
  refine ⟨K, fun k hk => ?_⟩
  show cond_TakesPath.f k l path = _
  unfold cond_TakesPath.f
  have ha : allS (patIn k path) l = true := List.all_eq_true.2 (fun x hx => by rw [hK k hk x hx]; rfl)
  rw [if_pos ha]
  congr 1
  rw [firstP_list (fun x => (patIn k path x).getD false) (fun x => x.f0) l (fun i => rd_T61 l (i : Int)) (fun i h => rd61n l i h) l.length 0 (by omega), List.drop_zero]
  exact firstL_congr (fun x hx => by rw [hK k hk x hx]; rfl)
theorem great_l1 (a0 : Int) (l1 : List S83) (l2 : List S61) (l3 : List S64) (a4 a5 : Int) (xs : List S64) (hl : xs.length ≤ 140737488355328) (m : Nat) :
    ∀ (j n : Nat), j + m = xs.length → n ≤ 3000 → ∃ b, Ev (fun k => dragomanref11_Great.l1 k (n : Int) xs (xs.length : Int) (j : Int) a0 l1 l2 l3 a4 a5) b := by
  induction m with
  | zero =>
    intro j n hj hn
    refine ⟨decide ((l1.length : Int) > 3000), Ev.step (by intro k; rw [dragomanref11_Great.l1]) ?_⟩
    exact Ev.ite_neg (by omega) (Ev.now _)
  | succ m ih =>
    intro j n hj hn
    have hlt : j < xs.length := by omega
    have hw : wrap64 ((n : Int) + mn (xs[j].f1.length : Int) 10000) = ((n + min xs[j].f1.length 10000 : Nat) : Int) := by rw [w64 (by rw [mn_eq]; omega) (by rw [mn_eq]; omega), mn_eq]; omega
    by_cases g1 : (j : Int) > 100
    · refine ⟨true, Ev.step (by intro k; rw [dragomanref11_Great.l1]) ?_⟩
      refine Ev.ite_pos (by omega) (Ev.ite_pos (by omega) (Ev.ite_pos (by omega) ?_))
      exact Ev.ite_pos g1 (Ev.now _)
    · by_cases g2 : n + min xs[j].f1.length 10000 > 3000
      · refine ⟨true, Ev.step (by intro k; rw [dragomanref11_Great.l1]) ?_⟩
        refine Ev.ite_pos (by omega) (Ev.ite_pos (by omega) (Ev.ite_pos (by omega) ?_))
        rw [rd64n xs j hlt, hw]
        exact Ev.ite_neg g1 (Ev.ite_pos (by omega) (Ev.now _))
      · obtain ⟨b, e⟩ := ih (j + 1) (n + min xs[j].f1.length 10000) (by omega) (by omega)
        refine ⟨b, Ev.step (by intro k; rw [dragomanref11_Great.l1]) ?_⟩
        refine Ev.ite_pos (by omega) (Ev.ite_pos (by omega) (Ev.ite_pos (by omega) ?_))
        rw [rd64n xs j hlt, hw, w64s j (by omega)]
        exact Ev.ite_neg g1 (Ev.ite_neg (by omega) e)
theorem great_l0 (a0 : Int) (l1 : List S83) (l2 : List S61) (l3 : List S64) (h3 : l3.length ≤ 140737488355328) (a4 a5 : Int) (xs : List S61) (hl : xs.length ≤ 140737488355328) (hx : ∀ x ∈ xs, ok25 x.f1) (m : Nat) :
    ∀ (j n : Nat), j + m = xs.length → n ≤ 3000 → ∃ b, Ev (fun k => dragomanref11_Great.l0 k (n : Int) xs (xs.length : Int) (j : Int) a0 l1 l2 l3 a4 a5) b ∧ (b = false → ∀ x ∈ xs.drop j, partsP x.f1 ≤ 3000) := by
  induction m with
  | zero =>
    intro j n hj hn
    obtain ⟨b, e⟩ := great_l1 a0 l1 l2 l3 a4 a5 l3 h3 l3.length 0 0 (by omega) (by omega)
    refine ⟨b, ?_, fun _ x h => ?_⟩
    · refine Ev.step (by intro k; rw [dragomanref11_Great.l0]) ?_
      exact Ev.ite_neg (by omega) e
    rw [List.drop_of_length_le (by omega)] at h
    simp at h
  | succ m ih =>
    intro j n hj hn
    have hlt : j < xs.length := by omega
    obtain ⟨d, es, _⟩ := rsize xs[j].f1 (hx _ (List.getElem_mem hlt))
    have hw : wrap64 ((n : Int) + ((min (partsP xs[j].f1) 1000000 : Nat) : Int)) = ((n + min (partsP xs[j].f1) 1000000 : Nat) : Int) := by rw [w64 (by omega) (by omega)]; omega
    by_cases g1 : (j : Int) > 100
    · refine ⟨true, Ev.step (by intro k; rw [dragomanref11_Great.l0]) ?_, by simp⟩
      refine Ev.ite_pos (by omega) (Ev.ite_pos (by omega) (Ev.ite_pos (by omega) ?_))
      rw [rd61n xs j hlt]
      exact Ev.bind1 _ es (Ev.ite_pos g1 (Ev.now _))
    · by_cases g2 : n + min (partsP xs[j].f1) 1000000 > 3000
      · refine ⟨true, Ev.step (by intro k; rw [dragomanref11_Great.l0]) ?_, by simp⟩
        refine Ev.ite_pos (by omega) (Ev.ite_pos (by omega) (Ev.ite_pos (by omega) ?_))
        rw [rd61n xs j hlt]
        refine Ev.bind1 _ es (Ev.ite_neg g1 ?_)
        dsimp only
        rw [hw]
        exact Ev.ite_pos (by omega) (Ev.now _)
      · obtain ⟨b, e, hb⟩ := ih (j + 1) (n + min (partsP xs[j].f1) 1000000) (by omega) (by omega)
        refine ⟨b, Ev.step (by intro k; rw [dragomanref11_Great.l0]) ?_, ?_⟩
        · refine Ev.ite_pos (by omega) (Ev.ite_pos (by omega) (Ev.ite_pos (by omega) ?_))
          rw [rd61n xs j hlt]
          refine Ev.bind1 _ es (Ev.ite_neg g1 ?_)
          dsimp only
          rw [hw, w64s j (by omega)]
          exact Ev.ite_neg (by omega) e
        · intro hf x h
          rw [dropc xs j hlt] at h
          rcases List.mem_cons.1 h with rfl | h
          · omega
          · exact hb hf x h
theorem great11 (z : S46) (h : ok46 z) : ∃ b, Ev (fun k => dragomanref11_Great.f k z.f0 z.f1 z.f2 z.f3 z.f4 z.f5) b ∧ (b = false → ∀ x ∈ z.f2, partsP x.f1 ≤ 3000) := by
  have h2 : z.f2.length * 64 ≤ 140737488351232 ∧ ∀ x ∈ z.f2, ok61 x := h.2.2.1
  have h3 : z.f3.length * 32 ≤ 140737488351232 ∧ ∀ x ∈ z.f3, ok64 x := h.2.2.2.1
  obtain ⟨b, e, hb⟩ := great_l0 z.f0 z.f1 z.f2 z.f3 (by omega) z.f4 z.f5 z.f2 (by omega) (fun x hx => (h2.2 x hx).2) z.f2.length 0 0 (by omega) (by omega)
  refine ⟨b, e, fun q x hx => hb q x (by rw [List.drop_zero]; exact hx)⟩
theorem great03 (a0 a1 : Int) (l2 l3 : List Int) (a4 a5 a6 a7 : Int) : r3_Great.f a0 a1 l2 l3 a4 a5 a6 a7 = some (decide ((l2.length : Int) > 1000) || decide ((l3.length : Int) > 1000)) := by
  unfold r3_Great.f
  by_cases g : (l2.length : Int) > 1000
  · rw [if_pos g, decide_eq_true g, Bool.true_or]
  · rw [if_neg g, decide_eq_false g, Bool.false_or]
end Go.Proofs.Ytlkjfjlmjgkheaa.H
/- Conditions, plainly: whether one holds is always told. -/
namespace Go.Proofs.Ytlkjfjlmjgkheaa.H
open Go.RowKit Go.Proofs.YtlkjfjlmjgkheaaW.PrintWords Go.Proofs.YtlkjfjlmjgkheaaW.PrintLast Go.Proofs.YtlkjfjlmjgkheaaW.PrintMore Go.Proofs.YtlkjfjlmjgkheaaRd
theorem pfxR_some (x : S83) : ∃ b, pfxR x = some b := by
  unfold pfxR pfx_Right.f route_Mask.f
  simp only [Option.bind_some]
  repeat' split
  all_goals exact ⟨_, rfl⟩
theorem pfxR_len {x : S83} (h : pfxR x = some true) : 0 ≤ x.f1.f0.f1 ∧ x.f1.f0.f1 ≤ 32 := by
  unfold pfxR pfx_Right.f route_Mask.f at h
  simp only [Option.bind_some] at h
  split at h
  · rename_i g
    rw [Bool.and_eq_true, beq_iff_eq, beq_iff_eq] at g
    have := g.2
    rw [mx_eq, mn_eq] at this
    omega
  · simp at h
theorem pfxIn_some (p0 p1 : Int) (x : S83) : ∃ b, pfxIn p0 p1 x = some b := by
  obtain ⟨b, hb⟩ := pfxR_some x
  have hb' : pfx_Right.f x.f1.f0.f0 x.f1.f0.f1 x.f1.f1 x.f1.f2 = some b := hb
  unfold pfxIn pfx_In.f
  rw [hb']
  cases b with
  | false => exact ⟨false, rfl⟩
  | true =>
    obtain ⟨h1, h2⟩ := pfxR_len hb
    have hw : wrap64 (32 - x.f1.f0.f1) = 32 - x.f1.f0.f1 := w64 (by omega) (by omega)
    unfold route_Mask.f pfx_begins.f
    simp only [Option.bind_some, if_true]
    rw [hw, if_pos (show (0 : Int) ≤ 32 - x.f1.f0.f1 by omega)]
    simp only [Option.bind_some]
    repeat' split
    all_goals exact ⟨_, rfl⟩
theorem pfxMatch_some (l : List S83) (p0 p1 : Int) : ∃ b, pfx_Match.f l p0 p1 = some b := by
  unfold pfx_Match.f
  have ha : allS (pfxIn p0 p1) l = true := List.all_eq_true.2 (fun x _ => by obtain ⟨b, hb⟩ := pfxIn_some p0 p1 x; rw [hb]; rfl)
  rw [if_pos ha]
  exact ⟨_, rfl⟩
theorem all_patR (l : List S61) (h : ∀ x ∈ l, ok25 x.f1 ∧ partsP x.f1 ≤ 1000000) : ∃ K, ∀ k, K ≤ k → ∀ x ∈ l, patR k x = some (rightB x.f1) := by
  induction l with
  | nil => exact ⟨0, fun _ _ x hx => by simp at hx⟩
  | cons y ys ih =>
    obtain ⟨K1, h1⟩ := right_ev y.f1 (h y (by simp)).1 (h y (by simp)).2
    obtain ⟨K2, h2⟩ := ih (fun x hx => h x (by simp [hx]))
    refine ⟨max K1 K2, fun k hk x hx => ?_⟩
    rcases List.mem_cons.1 hx with rfl | hx
    · exact h1 k (by omega)
    · exact h2 k (by omega) x hx
theorem cright_ev (a0 : Int) (l1 : List S83) (l2 : List S61) (l3 : List S64) (a4 a5 : Int) (h : ∀ x ∈ l2, ok25 x.f1 ∧ partsP x.f1 ≤ 1000000) : ∃ b, Ev (fun k => cond_Right.f k a0 l1 l2 l3 a4 a5) b := by
  have h1 : allS pfxR l1 = true := List.all_eq_true.2 (fun x _ => by obtain ⟨b, hb⟩ := pfxR_some x; rw [hb]; rfl)
  by_cases g1 : a0 = 1 ∨ a0 = 7
  · by_cases q : (l1.length : Int) ≤ 64
    · refine ⟨!(l1.any fun x => !((pfxR x).getD false)), 0, fun k _ => ?_⟩
      show cond_Right.f k a0 l1 l2 l3 a4 a5 = _
      unfold cond_Right.f
      rw [if_pos g1, if_pos q, if_pos h1]
    · refine ⟨false, 0, fun k _ => ?_⟩
      show cond_Right.f k a0 l1 l2 l3 a4 a5 = _
      unfold cond_Right.f
      rw [if_pos g1, if_neg q]
  · by_cases g2 : a0 = 2
    · by_cases q : (l2.length : Int) ≤ 64
      · obtain ⟨K, hK⟩ := all_patR l2 h
        refine ⟨!(l2.any fun x => !(rightB x.f1)), K, fun k hk => ?_⟩
        show cond_Right.f k a0 l1 l2 l3 a4 a5 = _
        unfold cond_Right.f
        have ha : allS (patR k) l2 = true := List.all_eq_true.2 (fun x hx => by rw [hK k hk x hx]; rfl)
        rw [if_neg g1, if_pos g2, if_pos q, if_pos ha]
        congr 2
        rw [Bool.eq_iff_iff, List.any_eq_true, List.any_eq_true]
        constructor
        · rintro ⟨x, hx, e⟩; exact ⟨x, hx, by rw [hK k hk x hx] at e; exact e⟩
        · rintro ⟨x, hx, e⟩; exact ⟨x, hx, by rw [hK k hk x hx]; exact e⟩
      · refine ⟨false, 0, fun k _ => ?_⟩
        show cond_Right.f k a0 l1 l2 l3 a4 a5 = _
        unfold cond_Right.f
        rw [if_neg g1, if_pos g2, if_neg q]
    · obtain ⟨b, hb⟩ : ∃ b, (if a0 = 3 then (if (l3.length : Int) ≤ 64 then some (!(l3.any fun x => decide ((x.f1.length : Int) > 64))) else some false) else if a0 = 4 ∨ a0 = 5 ∨ a0 = 6 then some true else some false) = some b := by
        repeat' split
        all_goals exact ⟨_, rfl⟩
      refine ⟨b, 0, fun k _ => ?_⟩
      show cond_Right.f k a0 l1 l2 l3 a4 a5 = _
      unfold cond_Right.f
      rw [if_neg g1, if_neg g2]
      exact hb
theorem holds_ev (a0 : Int) (l1 : List S83) (l2 : List S61) (l3 : List S64) (a4 a5 : Int) (p0 p1 : Int) (w c : List Int) (b4 b5 b6 b7 : Int) (h : ∀ x ∈ l2, ok25 x.f1 ∧ partsP x.f1 ≤ 1000000) (hc : ∀ v ∈ c, u32 v) (hb : ∀ x ∈ l3, ∀ b ∈ x.f1, u32 b.f0 ∧ u32 b.f1) :
    ∃ b, Ev (fun k => cond_Holds.f k a0 l1 l2 l3 a4 a5 p0 p1 w c b4 b5 b6 b7) b := by
  obtain ⟨t, ht⟩ := cright_ev a0 l1 l2 l3 a4 a5 h
  cases t with
  | false =>
    refine ⟨false, ?_⟩
    unfold cond_Holds.f
    exact Ev.bind1 _ ht (Ev.ite_neg (by decide) (Ev.now _))
  | true =>
    have key : ∃ b, Ev (fun k => holdsIn k a0 l1 l2 l3 a4 a5 p0 p1 w c b4 b5 b6 b7) b := by
      unfold holdsIn
      by_cases g1 : a0 = 1
      · obtain ⟨b, e⟩ := pfxMatch_some l1 p0 p1
        refine ⟨b, Ev.ite_pos g1 ?_⟩
        rw [e]
        exact Ev.now _
      by_cases g2 : a0 = 2
      · obtain ⟨g, hg⟩ := takeB_ex w
        exact ⟨_, Ev.ite_neg g1 (Ev.ite_pos g2 (path_ev (g := g) l2 (fun x hx => pat_in hg x (h x hx).1 (h x hx).2)))⟩
      by_cases g3 : a0 = 3
      · refine ⟨firstL (hasA c) (fun x => x.f0) l3, Ev.ite_neg g1 (Ev.ite_neg g2 (Ev.ite_pos g3 ?_))⟩
        rw [comms_eq hc hb]
        exact Ev.now _
      by_cases g4 : a0 = 4
      · exact ⟨_, Ev.ite_neg g1 (Ev.ite_neg g2 (Ev.ite_neg g3 (Ev.ite_pos g4 (Ev.now _))))⟩
      by_cases g5 : a0 = 5
      · exact ⟨_, Ev.ite_neg g1 (Ev.ite_neg g2 (Ev.ite_neg g3 (Ev.ite_neg g4 (Ev.ite_pos g5 (Ev.now _)))))⟩
      by_cases g6 : a0 = 6
      · exact ⟨_, Ev.ite_neg g1 (Ev.ite_neg g2 (Ev.ite_neg g3 (Ev.ite_neg g4 (Ev.ite_neg g5 (Ev.ite_pos g6 (Ev.now _))))))⟩
      obtain ⟨b, e⟩ := pfxMatch_some l1 b7 32
      refine ⟨b, Ev.ite_neg g1 (Ev.ite_neg g2 (Ev.ite_neg g3 (Ev.ite_neg g4 (Ev.ite_neg g5 (Ev.ite_neg g6 ?_)))))⟩
      rw [e]
      exact Ev.now _
    obtain ⟨b, e⟩ := key
    refine ⟨b, ?_⟩
    unfold cond_Holds.f
    exact Ev.bind1 _ ht (Ev.ite_pos rfl e)
end Go.Proofs.Ytlkjfjlmjgkheaa.H
