/- Numbers, plainly: what the program's function on a number answers; the reference's answers so, too. -/
import Derived.Test.YtdnneofebehpaaaDoorQa
import Derived.Lib.EndianBits
import Derived.Laws.BitsAllLaws
namespace Go.Proofs.YtdnneofebehpaaaDoor.L
open Go.RowKit Go.Proofs.YtdnneofebehpaaaDoorW.PrintWords Go.Proofs.YtdnneofebehpaaaDoorW.PrintLast Go.Proofs.YtdnneofebehpaaaDoorW.PrintMore Go.Proofs.YtdnneofebehpaaaDoor.LexPlain
def digB (c : UInt8) : Bool := decide (48 ≤ c.toNat) && decide (c.toNat ≤ 57)
def digD (l : List UInt8) : Bool := l.all digB
def valD (acc : Nat) (l : List UInt8) : Nat := l.foldl (fun a c => a * 10 + (c.toNat - 48)) acc
theorem valD_cons (acc : Nat) (c : UInt8) (r : List UInt8) : valD acc (c :: r) = valD (acc * 10 + (c.toNat - 48)) r := by
  unfold valD
  rw [List.foldl_cons]
theorem digB_iff (c : UInt8) : digB c = true ↔ 48 ≤ c.toNat ∧ c.toNat ≤ 57 := by simp [digB]
theorem vals_ge : ∀ (l : List UInt8) (acc : Nat), acc ≤ valD acc l
  | [], _ => Nat.le_refl _
  | c :: r, acc => by
    have := vals_ge r (acc * 10 + (c.toNat - 48))
    rw [valD_cons]
    omega
theorem vals_snoc : ∀ (l : List UInt8) (acc : Nat) (c : UInt8), valD acc (l ++ [c]) = valD acc l * 10 + (c.toNat - 48)
  | [], _, _ => rfl
  | d :: r, acc, c => by
    rw [List.cons_append, valD_cons, vals_snoc r _ c, valD_cons]
theorem parse_ok {M : Nat} (hM : M < 1844674407370955162) : ∀ (l : List UInt8) (acc : Nat), acc ≤ M → (digD l = true ∧ valD acc l ≤ M → Lib.parseUintM M acc l = .ok (valD acc l)) ∧ (¬ (digD l = true ∧ valD acc l ≤ M) → ∀ u, Lib.parseUintM M acc l ≠ .ok u)
  | [], acc, ha => ⟨fun _ => rfl, fun h => absurd ⟨rfl, ha⟩ h⟩
  | c :: r, acc, ha => by
    rw [Lib.parseUintM, valD_cons]
    unfold digD
    rw [List.all_cons, Bool.and_eq_true, digB_iff]
    by_cases hc : 48 ≤ c.toNat ∧ c.toNat ≤ 57
    · rw [if_pos hc, if_neg (by omega)]
      by_cases hr : M < acc * 10 + (c.toNat - 48)
      · rw [if_pos hr]
        have := vals_ge r (acc * 10 + (c.toNat - 48))
        refine ⟨fun h => by omega, fun _ u h => by cases h⟩
      · rw [if_neg hr]
        obtain ⟨h1, h2⟩ := parse_ok hM r (acc * 10 + (c.toNat - 48)) (by omega)
        exact ⟨fun h => h1 ⟨h.1.2, h.2⟩, fun h => h2 (fun g => h ⟨⟨hc, g.1⟩, g.2⟩)⟩
    · rw [if_neg hc]
      exact ⟨fun h => absurd h.1.1 hc, fun _ u h => by cases h⟩
theorem dec_big {u : Nat} (h : ¬ u < 10) : Lib.decDigits u = Lib.decDigits (u / 10) ++ [UInt8.ofNat (48 + u % 10)] := by
  rw [Lib.decDigits, dif_neg h]
theorem dec_of {l : List UInt8} : ∀ (n : Nat), l.length = n → l ≠ [] → digD l = true → (l.head? ≠ some 48 ∨ l = [48]) → Lib.decDigits (valD 0 l) = l := by
  intro n
  induction n using Nat.strongRecOn generalizing l with
  | _ n ih =>
    intro hl hne hd hz
    obtain ⟨r, c, rfl⟩ : ∃ r c, l = r ++ [c] := ⟨l.dropLast, l.getLast hne, (List.dropLast_concat_getLast hne).symm⟩
    rw [vals_snoc]
    unfold digD at hd
    rw [List.all_append, Bool.and_eq_true] at hd
    obtain ⟨hd1, hd2⟩ := hd
    have hc : 48 ≤ c.toNat ∧ c.toNat ≤ 57 := by
      rw [List.all_cons, Bool.and_eq_true, digB_iff] at hd2
      exact hd2.1
    have ec : UInt8.ofNat (48 + (c.toNat - 48)) = c := by
      apply UInt8.toNat_inj.1
      have := c.toNat_lt
      rw [UInt8.toNat_ofNat', Nat.mod_eq_of_lt (by omega)]
      omega
    cases r with
    | nil =>
      rw [show valD 0 [] = 0 from rfl, Nat.zero_mul, Nat.zero_add, Lib.decDigits_one (by omega), ec]
      rfl
    | cons a r =>
      have ha : a ≠ 48 := by
        rcases hz with hz | hz
        · intro q; subst q; exact hz rfl
        · simp at hz
      have ha2 : 48 ≤ a.toNat ∧ a.toNat ≤ 57 := by
        rw [List.all_cons, Bool.and_eq_true, digB_iff] at hd1
        exact hd1.1
      have hv : 1 ≤ valD 0 (a :: r) := by
        rw [valD_cons]
        have := vals_ge r (0 * 10 + (a.toNat - 48))
        have : a.toNat ≠ 48 := fun q => ha (UInt8.toNat_inj.1 q)
        omega
      rw [dec_big (by omega)]
      have e1 : (valD 0 (a :: r) * 10 + (c.toNat - 48)) / 10 = valD 0 (a :: r) := by omega
      have e2 : (valD 0 (a :: r) * 10 + (c.toNat - 48)) % 10 = c.toNat - 48 := by omega
      rw [e1, e2, ec, ih (a :: r).length (by simp only [List.length_append, List.length_cons, List.length_nil] at hl ⊢; omega) rfl (by simp) hd1 (Or.inl (by simp [ha]))]
theorem dec_head : ∀ (n u : Nat), u ≤ n → 1 ≤ u → ∃ a r, Lib.decDigits u = a :: r ∧ a ≠ 48 := by
  intro n
  induction n with
  | zero => intro u h h1; omega
  | succ n ih =>
    intro u h h1
    by_cases hs : u < 10
    · refine ⟨_, [], Lib.decDigits_one hs, fun q => ?_⟩
      have := congrArg UInt8.toNat q
      rw [UInt8.toNat_ofNat', Nat.mod_eq_of_lt (by omega)] at this
      have e : (48 : UInt8).toNat = 48 := rfl
      omega
    · obtain ⟨a, r, h2, h3⟩ := ih (u / 10) (by omega) (by omega)
      rw [dec_big hs, h2]
      exact ⟨a, r ++ [_], rfl, h3⟩
theorem dec_len : ∀ (n u : Nat), u < 10 ^ (n + 1) → (Lib.decDigits u).length ≤ n + 1 ∧ 1 ≤ (Lib.decDigits u).length := by
  intro n
  induction n with
  | zero =>
    intro u h
    rw [Lib.decDigits_one (by simpa using h)]
    simp
  | succ n ih =>
    intro u h
    by_cases hs : u < 10
    · rw [Lib.decDigits_one hs]
      simp
    · rw [dec_big hs]
      have := ih (u / 10) (by rw [Nat.pow_succ] at h; omega)
      simp only [List.length_append, List.length_cons, List.length_nil]
      omega
def numR (l : List UInt8) : Int × Bool := if l.length < 1 ∨ 10 < l.length ∨ (l.head? = some 48 ∧ 1 < l.length) then (0, false) else if digD l = true ∧ valD 0 l ≤ 4294967295 then ((valD 0 l : Int), true) else (0, false)
theorem numS_R (l : List UInt8) : numS l = numR l := by
  unfold numS numR Lib.parseUintB
  cases hl : l with
  | nil => rfl
  | cons a r =>
    rw [if_neg (by simp)]
    rw [← hl]
    have hne : l ≠ [] := by rw [hl]; simp
    obtain ⟨p1, p2⟩ := parse_ok (M := 2 ^ 32 - 1) (by decide) l 0 (by decide)
    by_cases h : digD l = true ∧ valD 0 l ≤ 2 ^ 32 - 1
    · rw [p1 h]
      show (if Lib.decDigits (valD 0 l) = l then ((valD 0 l : Int), true) else (0, false)) = _
      by_cases hz : l.head? = some 48 ∧ 1 < l.length
      · rw [if_pos (Or.inr (Or.inr hz)), if_neg]
        intro q
        by_cases hv : valD 0 l < 10
        · rw [Lib.decDigits_one hv] at q
          have := congrArg List.length q
          simp at this
          omega
        · obtain ⟨b, s, h2, h3⟩ := dec_head _ _ (Nat.le_refl _) (show 1 ≤ valD 0 l by omega)
          rw [q] at h2
          rw [h2] at hz
          exact h3 (by simpa using hz.1)
      · have hlen : 1 ≤ l.length := by rw [hl]; simp
        have hd : Lib.decDigits (valD 0 l) = l := by
          refine dec_of l.length rfl hne h.1 ?_
          by_cases q : l.head? = some 48
          · right
            have h1 : l.length = 1 := by
              have : ¬ 1 < l.length := fun g => hz ⟨q, g⟩
              omega
            obtain ⟨x, rfl⟩ := List.length_eq_one_iff.1 h1
            simp at q
            rw [q]
          · exact Or.inl q
        have h10 : l.length ≤ 10 := by
          have := (dec_len 9 (valD 0 l) (by have := h.2; omega)).1
          rwa [hd] at this
        rw [if_pos hd, if_neg (by rintro (g | g | g); omega; omega; exact hz g), if_pos ⟨h.1, by have := h.2; omega⟩]
    · have hq : ∀ x : Lib.NumEnd Nat, (∀ u, x ≠ .ok u) → (match x with | .ok u => if Lib.decDigits u = l then ((u : Int), true) else (0, false) | _ => ((0 : Int), false)) = (0, false) := by
        intro x hx
        rcases x with u | _ | _
        · exact absurd rfl (hx u)
        · rfl
        · rfl
      have e1 := hq _ (p2 h)
      refine e1.trans ?_
      have h' : ¬ (digD l = true ∧ valD 0 l ≤ 4294967295) := fun g => h ⟨g.1, by have := g.2; omega⟩
      rw [if_neg h']
      split <;> rfl
end Go.Proofs.YtdnneofebehpaaaDoor.L
