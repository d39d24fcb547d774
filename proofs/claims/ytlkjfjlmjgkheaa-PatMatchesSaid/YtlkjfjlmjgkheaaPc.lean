/- Patterns, plainly: what a pattern takes; where it ends. -/
import Derived.Test.YtlkjfjlmjgkheaaGx3
namespace Go.Proofs.Ytlkjfjlmjgkheaa.G
open Go.RowKit Go.Proofs.YtlkjfjlmjgkheaaW.PrintWords Go.Proofs.YtlkjfjlmjgkheaaW.PrintLast Go.Proofs.YtlkjfjlmjgkheaaW.PrintMore
def inSet (set : List S66) (v : Int) : Bool := set.any fun s => decide (s.f0 ≤ v) && decide (v ≤ s.f1)
inductive StarOf (P : List Int → Prop) : List Int → Prop
  | nil : StarOf P []
  | cons {u v : List Int} : P u → StarOf P v → StarOf P (u ++ v)
theorem StarOf.one {P : List Int → Prop} {u : List Int} (h : P u) : StarOf P u := by
  have := StarOf.cons h StarOf.nil
  rwa [List.append_nil] at this
theorem StarOf.app {P : List Int → Prop} {u v : List Int} (h : StarOf P u) (h' : StarOf P v) : StarOf P (u ++ v) := by
  induction h with
  | nil => exact h'
  | cons a _ ih => rw [List.append_assoc]; exact StarOf.cons a ih
mutual
def Lp : S25 → List Int → Prop
  | ⟨k, set, subs⟩ => fun w => if k = 1 then ∃ v, w = [v] ∧ inSet set v = true else if k = 2 then Lcat subs w else if k = 3 then Lalt subs w else if k = 4 then StarOf (Lhd subs) w else False
def Lcat : List S25 → List Int → Prop
  | [] => fun w => w = []
  | x :: xs => fun w => ∃ u v, w = u ++ v ∧ Lp x u ∧ Lcat xs v
def Lalt : List S25 → List Int → Prop
  | [] => fun _ => False
  | x :: xs => fun w => Lp x w ∨ Lalt xs w
def Lhd : List S25 → List Int → Prop
  | [] => fun _ => False
  | x :: _ => fun w => Lp x w
end
theorem Lp_one {x : S25} (h : x.f0 = 1) : Lp x = fun w => ∃ v, w = [v] ∧ inSet x.f1 v = true := by
  obtain ⟨k, s, l⟩ := x
  rw [Lp]; funext w; exact if_pos h
theorem Lp_cat {x : S25} (h : x.f0 = 2) : Lp x = Lcat x.f2 := by
  obtain ⟨k, s, l⟩ := x
  dsimp only at h ⊢
  subst h
  rw [Lp]; funext w; rfl
theorem Lp_alt {x : S25} (h : x.f0 = 3) : Lp x = Lalt x.f2 := by
  obtain ⟨k, s, l⟩ := x
  dsimp only at h ⊢
  subst h
  rw [Lp]; funext w; rfl
theorem Lp_star {x : S25} (h : x.f0 = 4) : Lp x = StarOf (Lhd x.f2) := by
  obtain ⟨k, s, l⟩ := x
  dsimp only at h ⊢
  subst h
  rw [Lp]; funext w; rfl
def En (path : List Int) (P : List Int → Prop) (S : Nat → Prop) (j : Nat) : Prop :=
  j ≤ path.length ∧ ∃ i, i ≤ path.length ∧ S i ∧ ∃ u, P u ∧ path.drop i = u ++ path.drop j
theorem drop_inj {path : List Int} {i j : Nat} (hi : i ≤ path.length) (hj : j ≤ path.length) (h : path.drop i = path.drop j) : i = j := by
  have := congrArg List.length h
  simp only [List.length_drop] at this
  omega
theorem drop_app {path u v : List Int} {i : Nat} (hi : i ≤ path.length) (h : path.drop i = u ++ v) : i + u.length ≤ path.length ∧ path.drop (i + u.length) = v := by
  have := congrArg List.length h
  simp only [List.length_drop, List.length_append] at this
  refine ⟨by omega, ?_⟩
  rw [← List.drop_drop, h, List.drop_left]
theorem En.congr {path : List Int} {P Q : List Int → Prop} {S T : Nat → Prop} (hP : ∀ u, P u ↔ Q u) (hS : ∀ i, i ≤ path.length → (S i ↔ T i)) (j : Nat) : En path P S j ↔ En path Q T j := by
  constructor
  · rintro ⟨h, i, hi, s, u, p, e⟩; exact ⟨h, i, hi, (hS i hi).1 s, u, (hP u).1 p, e⟩
  · rintro ⟨h, i, hi, s, u, p, e⟩; exact ⟨h, i, hi, (hS i hi).2 s, u, (hP u).2 p, e⟩
theorem En.then_ {path : List Int} {P Q : List Int → Prop} {S : Nat → Prop} (j : Nat) : En path Q (En path P S) j ↔ En path (fun w => ∃ u v, w = u ++ v ∧ P u ∧ Q v) S j := by
  constructor
  · rintro ⟨h, m, hm, ⟨_, i, hi, s, u, p, e⟩, v, q, e'⟩
    exact ⟨h, i, hi, s, u ++ v, ⟨u, v, rfl, p, q⟩, by rw [e, e', List.append_assoc]⟩
  · rintro ⟨h, i, hi, s, _, ⟨u, v, rfl, p, q⟩, e⟩
    rw [List.append_assoc] at e
    obtain ⟨hm, e'⟩ := drop_app hi e
    exact ⟨h, _, hm, ⟨hm, i, hi, s, u, p, by rw [e', e]⟩, v, q, e'⟩
theorem En.nil_ {path : List Int} {S : Nat → Prop} (hS : ∀ i, S i → i ≤ path.length) (j : Nat) : En path (fun w => w = []) S j ↔ S j := by
  constructor
  · rintro ⟨h, i, hi, s, _, rfl, e⟩
    rw [← drop_inj hi h e]; exact s
  · intro s; exact ⟨hS j s, j, hS j s, s, [], rfl, rfl⟩
theorem En.or_ {path : List Int} {P Q : List Int → Prop} {S : Nat → Prop} (j : Nat) : En path (fun w => P w ∨ Q w) S j ↔ En path P S j ∨ En path Q S j := by
  constructor
  · rintro ⟨h, i, hi, s, u, p | p, e⟩
    · exact Or.inl ⟨h, i, hi, s, u, p, e⟩
    · exact Or.inr ⟨h, i, hi, s, u, p, e⟩
  · rintro (⟨h, i, hi, s, u, p, e⟩ | ⟨h, i, hi, s, u, p, e⟩)
    · exact ⟨h, i, hi, s, u, Or.inl p, e⟩
    · exact ⟨h, i, hi, s, u, Or.inr p, e⟩
theorem En.false_ {path : List Int} {S : Nat → Prop} (j : Nat) : ¬ En path (fun _ => False) S j := by
  rintro ⟨_, _, _, _, _, p, _⟩; exact p
theorem En.one_ {path : List Int} {Q : Int → Prop} {S : Nat → Prop} (j : Nat) : En path (fun w => ∃ v, w = [v] ∧ Q v) S j ↔ ∃ i, ∃ h : i < path.length, j = i + 1 ∧ S i ∧ Q path[i] := by
  constructor
  · rintro ⟨h, i, hi, s, _, ⟨v, rfl, q⟩, e⟩
    have hl : i < path.length := by
      have := congrArg List.length e
      simp only [List.length_drop, List.length_append, List.length_singleton] at this
      omega
    rw [List.drop_eq_getElem_cons hl] at e
    injection e with e1 e2
    exact ⟨i, hl, (drop_inj (by omega) h e2).symm, s, by rw [e1]; exact q⟩
  · rintro ⟨i, h, rfl, s, q⟩
    exact ⟨h, i, by omega, s, [path[i]], ⟨_, rfl, q⟩, List.drop_eq_getElem_cons h⟩
theorem En.star_ {path : List Int} {P : List Int → Prop} {S T : Nat → Prop} (h0 : ∀ i, S i → T i) (h1 : ∀ i, T i → En path (StarOf P) S i) (h2 : ∀ j, En path P T j → T j) (j : Nat) : T j ↔ En path (StarOf P) S j := by
  refine ⟨h1 j, ?_⟩
  rintro ⟨h, i, hi, s, u, p, e⟩
  have key : ∀ u, StarOf P u → ∀ i, i ≤ path.length → T i → path.drop i = u ++ path.drop j → T j := by
    intro u p
    induction p with
    | nil => intro i hi t e; rw [← drop_inj hi h (by simpa using e)]; exact t
    | cons a _ ih =>
      intro i hi t e
      rw [List.append_assoc] at e
      obtain ⟨hm, e'⟩ := drop_app hi e
      exact ih _ hm (h2 _ ⟨hm, i, hi, t, _, a, by rw [e', e]⟩) e'
  exact key u p i hi (h0 i s) e
theorem En.more {path : List Int} {P : List Int → Prop} {S T : Nat → Prop} (h1 : ∀ i, T i → En path (StarOf P) S i) {j : Nat} (h : En path P T j) : En path (StarOf P) S j := by
  obtain ⟨hj, m, hm, t, v, p, e⟩ := h
  obtain ⟨_, i, hi, s, u, p', e'⟩ := h1 m t
  exact ⟨hj, i, hi, s, u ++ v, p'.app (StarOf.one p), by rw [e', e, List.append_assoc]⟩
theorem En.here {path : List Int} {P : List Int → Prop} {S : Nat → Prop} (hS : ∀ i, S i → i ≤ path.length) {i : Nat} (h : S i) : En path (StarOf P) S i :=
  ⟨hS i h, i, hS i h, h, [], StarOf.nil, rfl⟩
theorem En.whole {path : List Int} {P : List Int → Prop} : En path P (fun i => i = 0) path.length ↔ P path := by
  constructor
  · rintro ⟨_, i, _, rfl, u, p, e⟩
    rw [List.drop_length, List.append_nil, List.drop_zero] at e
    rw [e]; exact p
  · intro p
    exact ⟨Nat.le_refl _, 0, Nat.zero_le _, rfl, path, p, by simp⟩
end Go.Proofs.Ytlkjfjlmjgkheaa.G
