/- Patterns, plainly: the program's ends of a path. -/
import Derived.Test.YtlkjfjlmjgkheaaPb
import Derived.Test.YtlkjfjlmjgkheaaPc
namespace Go.Proofs.Ytlkjfjlmjgkheaa.G
open Go.RowKit Go.Proofs.YtlkjfjlmjgkheaaW.PrintWords Go.Proofs.YtlkjfjlmjgkheaaW.PrintLast Go.Proofs.YtlkjfjlmjgkheaaW.PrintMore Go.Proofs.YtlkjfjlmjgkheaaRd
theorem fitsL_mem {l : List S25} (h : fitsL l = true) : ∀ y ∈ l, fitsP y = true := by
  rw [fitsL_any] at h
  intro y hy
  by_cases c : fitsP y = true
  · exact c
  · have : (l.any fun x => !fitsP x) = true := List.any_eq_true.2 ⟨y, hy, by simp [c]⟩
    rw [this] at h; simp at h
theorem fits_cases {x : S25} (h : fitsP x = true) : (x.f0 = 1) ∨ ((x.f0 = 2 ∨ x.f0 = 3 ∨ (x.f0 = 4 ∧ x.f2.length = 1)) ∧ ∀ y ∈ x.f2, fitsP y = true) := by
  obtain ⟨a, b, c⟩ := x
  rw [fitsP_eq] at h
  dsimp only
  by_cases h1 : a = 1
  · exact Or.inl h1
  · rw [if_neg h1] at h
    by_cases h2 : a = 2 ∨ a = 3 ∨ a = 4
    · rw [if_pos h2] at h
      simp only [Bool.and_eq_true, Bool.or_eq_true, Bool.not_eq_true', decide_eq_true_eq, decide_eq_false_iff_not] at h
      obtain ⟨_, h4, h5⟩ := h
      refine Or.inr ⟨?_, fitsL_mem h5⟩
      rcases h2 with h2 | h2 | h2
      · exact Or.inl h2
      · exact Or.inr (Or.inl h2)
      · exact Or.inr (Or.inr ⟨h2, by rcases h4 with h4 | h4 <;> omega⟩)
    · rw [if_neg h2] at h; cases h
theorem one_loop (path : List Int) (hp : path.length ≤ 255) (a : Int) (set : List S66) (subs : List S25) {x0 x1 x2 x3 : Nat} {S : Nat → Prop} (hr : RepW x0 x1 x2 x3 S) (m : Nat) :
    ∀ (j : Nat), j + m = path.length → ∀ (z0 z1 z2 z3 : Nat), RepW z0 z1 z2 z3 (fun p => ∃ i, ∃ h : i < path.length, i < j ∧ p = i + 1 ∧ S i ∧ inSet set path[i] = true) →
    ∃ y0 y1 y2 y3 : Nat, Ev (fun k => pat_ends.l0 k path (path.length : Int) (j : Int) a set subs x0 x1 x2 x3 z0 z1 z2 z3) ((y0 : Int), (y1 : Int), (y2 : Int), (y3 : Int)) ∧ RepW y0 y1 y2 y3 (En path (fun w => ∃ v, w = [v] ∧ inSet set v = true) S) := by
  induction m with
  | zero =>
    intro j hj z0 z1 z2 z3 hz
    refine ⟨z0, z1, z2, z3, ?_, hz.congr fun p hp' => ?_⟩
    · refine Ev.step (by intro k; rw [pat_ends.l0]) ?_
      exact Ev.ite_neg (by omega) (Ev.now _)
    · rw [En.one_]
      constructor
      · rintro ⟨i, h, _, e, s, q⟩; exact ⟨i, h, e, s, q⟩
      · rintro ⟨i, h, e, s, q⟩; exact ⟨i, h, by omega, e, s, q⟩
  | succ m ih =>
    intro j hj z0 z1 z2 z3 hz
    have hlt : j < path.length := by omega
    obtain ⟨b, hb, hbS⟩ := has_rep hr j (by omega)
    have skip : (¬ (S j ∧ inSet set path[j] = true)) → RepW z0 z1 z2 z3 (fun p => ∃ i, ∃ h : i < path.length, i < j + 1 ∧ p = i + 1 ∧ S i ∧ inSet set path[i] = true) := fun hn => hz.congr fun p _ => by
      constructor
      · rintro ⟨i, h, l, e, s, q⟩; exact ⟨i, h, by omega, e, s, q⟩
      · rintro ⟨i, h, l, e, s, q⟩
        by_cases c : i = j
        · subst c; exact absurd ⟨s, q⟩ hn
        · exact ⟨i, h, by omega, e, s, q⟩
    by_cases hs : S j
    · have hb1 : b = true := hbS.2 hs
      subst hb1
      by_cases hq : inSet set path[j] = true
      · obtain ⟨u0, u1, u2, u3, hu, hur⟩ := put_rep hz (j + 1) (by omega)
        obtain ⟨y0, y1, y2, y3, hy, hyr⟩ := ih (j + 1) (by omega) u0 u1 u2 u3 (hur.congr fun p _ => by
          constructor
          · rintro (⟨i, h, l, e, s, q⟩ | e)
            · exact ⟨i, h, by omega, e, s, q⟩
            · exact ⟨j, hlt, by omega, e, hs, hq⟩
          · rintro ⟨i, h, l, e, s, q⟩
            by_cases c : i = j
            · subst c; exact Or.inr e
            · exact Or.inl ⟨i, h, by omega, e, s, q⟩)
        refine ⟨y0, y1, y2, y3, ?_, hyr⟩
        refine Ev.step (by intro k; rw [pat_ends.l0]) ?_
        refine Ev.ite_pos (by omega) (Ev.ite_pos (by omega) (Ev.ite_pos (by omega) ?_))
        refine Ev.bind1 _ (hb ▸ Ev.now _) (Ev.ite_pos rfl ?_)
        rw [rdn path j hlt]
        refine Ev.bind1 (inSet set path[j]) (Ev.now _) (Ev.ite_pos hq ?_)
        rw [w64s j (by omega)]
        refine Ev.bind1 _ (hu ▸ Ev.now _) ?_
        exact hy
      · obtain ⟨y0, y1, y2, y3, hy, hyr⟩ := ih (j + 1) (by omega) z0 z1 z2 z3 (skip (fun h => hq h.2))
        refine ⟨y0, y1, y2, y3, ?_, hyr⟩
        refine Ev.step (by intro k; rw [pat_ends.l0]) ?_
        refine Ev.ite_pos (by omega) (Ev.ite_pos (by omega) (Ev.ite_pos (by omega) ?_))
        refine Ev.bind1 _ (hb ▸ Ev.now _) (Ev.ite_pos rfl ?_)
        rw [rdn path j hlt]
        refine Ev.bind1 (inSet set path[j]) (Ev.now _) (Ev.ite_neg hq ?_)
        rw [w64s j (by omega)]
        exact hy
    · obtain ⟨y0, y1, y2, y3, hy, hyr⟩ := ih (j + 1) (by omega) z0 z1 z2 z3 (skip (fun h => hs h.1))
      refine ⟨y0, y1, y2, y3, ?_, hyr⟩
      refine Ev.step (by intro k; rw [pat_ends.l0]) ?_
      refine Ev.ite_pos (by omega) (Ev.ite_pos (by omega) (Ev.ite_pos (by omega) ?_))
      refine Ev.bind1 _ (hb ▸ Ev.now _) (Ev.ite_neg (fun h => hs (hbS.1 h)) ?_)
      rw [w64s j (by omega)]
      exact hy
def EndsOk (path : List Int) (x : S25) : Prop := ∀ (x0 x1 x2 x3 : Nat) (S : Nat → Prop), RepW x0 x1 x2 x3 S → (∀ i, S i → i ≤ path.length) →
  ∃ y0 y1 y2 y3 : Nat, Ev (fun k => pat_ends.f k x.f0 x.f1 x.f2 path x0 x1 x2 x3) ((y0 : Int), (y1 : Int), (y2 : Int), (y3 : Int)) ∧ RepW y0 y1 y2 y3 (En path (Lp x) S)
theorem cat_loop (path : List Int) (subs : List S25) (hl : subs.length * 56 ≤ 140737488351232) (ih : ∀ y ∈ subs, EndsOk path y) (m : Nat) :
    ∀ (j : Nat), j + m = subs.length → ∀ (z0 z1 z2 z3 : Nat) (S : Nat → Prop), RepW z0 z1 z2 z3 S → (∀ i, S i → i ≤ path.length) →
    ∃ y0 y1 y2 y3 : Nat, Ev (fun k => pat_ends.l1 k path subs (subs.length : Int) (j : Int) z0 z1 z2 z3) ((y0 : Int), (y1 : Int), (y2 : Int), (y3 : Int)) ∧ RepW y0 y1 y2 y3 (En path (Lcat (subs.drop j)) S) := by
  induction m with
  | zero =>
    intro j hj z0 z1 z2 z3 S hz hS
    refine ⟨z0, z1, z2, z3, ?_, hz.congr fun p hp' => ?_⟩
    · refine Ev.step (by intro k; rw [pat_ends.l1]) ?_
      exact Ev.ite_neg (by omega) (Ev.now _)
    · rw [List.drop_of_length_le (by omega), Lcat, En.nil_ hS]
  | succ m im =>
    intro j hj z0 z1 z2 z3 S hz hS
    have hlt : j < subs.length := by omega
    obtain ⟨u0, u1, u2, u3, hu, hur⟩ := ih subs[j] (List.getElem_mem hlt) z0 z1 z2 z3 S hz hS
    obtain ⟨y0, y1, y2, y3, hy, hyr⟩ := im (j + 1) (by omega) u0 u1 u2 u3 _ hur (fun i h => h.1)
    refine ⟨y0, y1, y2, y3, ?_, hyr.congr fun p _ => ?_⟩
    · refine Ev.step (by intro k; rw [pat_ends.l1]) ?_
      refine Ev.ite_pos (by omega) (Ev.ite_pos (by omega) (Ev.ite_pos (by omega) ?_))
      rw [rd25n subs j hlt, w64s j (by omega)]
      exact Ev.bind1 _ hu hy
    · rw [En.then_, dropc subs j hlt, Lcat]
theorem alt_loop (path : List Int) (subs : List S25) (hl : subs.length * 56 ≤ 140737488351232) (ih : ∀ y ∈ subs, EndsOk path y) {x0 x1 x2 x3 : Nat} {S : Nat → Prop} (hr : RepW x0 x1 x2 x3 S) (hS : ∀ i, S i → i ≤ path.length) (m : Nat) :
    ∀ (j : Nat), j + m = subs.length → ∀ (z0 z1 z2 z3 : Nat) (Z : Nat → Prop), RepW z0 z1 z2 z3 Z →
    ∃ y0 y1 y2 y3 : Nat, Ev (fun k => pat_ends.l2 k path subs (subs.length : Int) (j : Int) x0 x1 x2 x3 z0 z1 z2 z3) ((y0 : Int), (y1 : Int), (y2 : Int), (y3 : Int)) ∧ RepW y0 y1 y2 y3 (fun p => Z p ∨ En path (Lalt (subs.drop j)) S p) := by
  induction m with
  | zero =>
    intro j hj z0 z1 z2 z3 Z hz
    refine ⟨z0, z1, z2, z3, ?_, hz.congr fun p hp' => ?_⟩
    · refine Ev.step (by intro k; rw [pat_ends.l2]) ?_
      exact Ev.ite_neg (by omega) (Ev.now _)
    · rw [List.drop_of_length_le (by omega), Lalt]
      exact ⟨Or.inl, fun h => h.elim id (fun h => absurd h (En.false_ p))⟩
  | succ m im =>
    intro j hj z0 z1 z2 z3 Z hz
    have hlt : j < subs.length := by omega
    obtain ⟨u0, u1, u2, u3, hu, hur⟩ := ih subs[j] (List.getElem_mem hlt) x0 x1 x2 x3 S hr hS
    obtain ⟨hw, hwr⟩ := with_rep hz hur
    obtain ⟨y0, y1, y2, y3, hy, hyr⟩ := im (j + 1) (by omega) _ _ _ _ _ hwr
    refine ⟨y0, y1, y2, y3, ?_, hyr.congr fun p _ => ?_⟩
    · refine Ev.step (by intro k; rw [pat_ends.l2]) ?_
      refine Ev.ite_pos (by omega) (Ev.ite_pos (by omega) (Ev.ite_pos (by omega) ?_))
      rw [rd25n subs j hlt, w64s j (by omega)]
      refine Ev.bind1 _ hu ?_
      refine Ev.bind1 _ (hw ▸ Ev.now _) ?_
      exact hy
    · rw [dropc subs j hlt, Lalt, En.or_, or_assoc]
theorem star_loop (path : List Int) (hp : path.length ≤ 255) (a : Int) (set : List S66) (y : S25) (ih : EndsOk path y) {S : Nat → Prop} (hS : ∀ i, S i → i ≤ path.length) (m : Nat) :
    ∀ (z0 z1 z2 z3 : Nat), z0 + z1 + z2 + z3 + m = 73786976294838206464 → ∀ (T : Nat → Prop), RepW z0 z1 z2 z3 T → (∀ i, S i → T i) → (∀ i, T i → En path (StarOf (Lp y)) S i) →
    ∃ y0 y1 y2 y3 : Nat, Ev (fun k => pat_ends.l3 k path a set [y] z0 z1 z2 z3) ((y0 : Int), (y1 : Int), (y2 : Int), (y3 : Int)) ∧ RepW y0 y1 y2 y3 (En path (StarOf (Lp y)) S) := by
  induction m using Nat.strongRecOn with
  | ind m im =>
    intro z0 z1 z2 z3 hm T hz h0 h1
    obtain ⟨u0, u1, u2, u3, hu, hur⟩ := ih z0 z1 z2 z3 T hz (fun i t => (h1 i t).1)
    obtain ⟨hw, hwr⟩ := with_rep hz hur
    have eqv := rep_eq hwr hz
    by_cases c : ∀ i, i < 256 → ((T i ∨ En path (Lp y) T i) ↔ T i)
    · refine ⟨z0, z1, z2, z3, ?_, hz.congr fun p _ => ?_⟩
      · refine Ev.step (by intro k; rw [pat_ends.l3]) ?_
        refine Ev.ite_pos (by simp) ?_
        rw [show rd_T25 [y] 0 = y from rfl]
        refine Ev.bind1 _ hu ?_
        refine Ev.bind1 _ (hw ▸ Ev.now _) ?_
        exact Ev.ite_pos (eqv.2 c) (Ev.now _)
      · exact En.star_ h0 h1 (fun j hj => (c j (by have := hj.1; omega)).1 (Or.inr hj)) p
    · have ne : ¬ (z0 ||| u0 = z0 ∧ z1 ||| u1 = z1 ∧ z2 ||| u2 = z2 ∧ z3 ||| u3 = z3) := by
        rintro ⟨e0, e1, e2, e3⟩
        apply c
        apply eqv.1
        rw [e0, e1, e2, e3]
        simp
      have l0 : z0 ≤ z0 ||| u0 := Nat.left_le_or
      have l1 : z1 ≤ z1 ||| u1 := Nat.left_le_or
      have l2 : z2 ≤ z2 ||| u2 := Nat.left_le_or
      have l3 : z3 ≤ z3 ||| u3 := Nat.left_le_or
      have b0 := hwr.1
      have b1 := hwr.2.1
      have b2 := hwr.2.2.1
      have b3 := hwr.2.2.2.1
      have lt : 73786976294838206464 - ((z0 ||| u0) + (z1 ||| u1) + (z2 ||| u2) + (z3 ||| u3)) < m := by omega
      obtain ⟨y0, y1, y2, y3, hy, hyr⟩ := im _ lt (z0 ||| u0) (z1 ||| u1) (z2 ||| u2) (z3 ||| u3) (by omega) _ hwr (fun i s => Or.inl (h0 i s)) (fun i t => t.elim (h1 i) (fun e => En.more h1 e))
      refine ⟨y0, y1, y2, y3, ?_, hyr⟩
      refine Ev.step (by intro k; rw [pat_ends.l3]) ?_
      refine Ev.ite_pos (by simp) ?_
      rw [show rd_T25 [y] 0 = y from rfl]
      refine Ev.bind1 _ hu ?_
      refine Ev.bind1 _ (hw ▸ Ev.now _) ?_
      exact Ev.ite_neg (fun h => c (eqv.1 h)) hy
theorem ends_ev (path : List Int) (hp : path.length ≤ 255) (x : S25) (hx : ok25 x) (hf : fitsP x = true) : EndsOk path x := by
  revert hx hf
  refine ind25 (P := fun x => ok25 x → fitsP x = true → EndsOk path x) ?_ x
  intro x ih hx hf x0 x1 x2 x3 S hr hS
  obtain ⟨hl, hs⟩ := ok25_subs hx
  rcases fits_cases hf with h | ⟨h, hf⟩
  · obtain ⟨y0, y1, y2, y3, hy, hyr⟩ := one_loop path hp 1 x.f1 x.f2 hr path.length 0 (by omega) 0 0 0 0 (RepW.none.congr fun p _ => by simp)
    refine ⟨y0, y1, y2, y3, ?_, by rw [Lp_one h]; exact hyr⟩
    rw [h]
    refine Ev.step (by intro k; rw [pat_ends.f]) ?_
    exact Ev.ite_pos rfl hy
  · have ih' : ∀ y ∈ x.f2, EndsOk path y := fun y hy => ih y hy (hs y hy) (hf y hy)
    rcases h with h | h | ⟨h, h1⟩
    · obtain ⟨y0, y1, y2, y3, hy, hyr⟩ := cat_loop path x.f2 hl ih' x.f2.length 0 (by omega) x0 x1 x2 x3 S hr hS
      refine ⟨y0, y1, y2, y3, ?_, by rw [Lp_cat h]; exact hyr⟩
      rw [h]
      refine Ev.step (by intro k; rw [pat_ends.f]) ?_
      exact Ev.ite_neg (by decide) (Ev.ite_pos rfl hy)
    · obtain ⟨y0, y1, y2, y3, hy, hyr⟩ := alt_loop path x.f2 hl ih' hr hS x.f2.length 0 (by omega) 0 0 0 0 _ RepW.none
      refine ⟨y0, y1, y2, y3, ?_, by rw [Lp_alt h]; exact hyr.congr fun p _ => by simp⟩
      rw [h]
      refine Ev.step (by intro k; rw [pat_ends.f]) ?_
      exact Ev.ite_neg (by decide) (Ev.ite_neg (by decide) (Ev.ite_pos rfl hy))
    · obtain ⟨y, hy1⟩ := List.length_eq_one_iff.1 h1
      rw [hy1] at ih'
      have b0 := hr.1
      have b1 := hr.2.1
      have b2 := hr.2.2.1
      have b3 := hr.2.2.2.1
      obtain ⟨y0, y1, y2, y3, hy, hyr⟩ := star_loop path hp 4 x.f1 y (ih' y (by simp)) hS (73786976294838206464 - (x0 + x1 + x2 + x3)) x0 x1 x2 x3 (by omega) S hr (fun _ h => h) (fun i h => En.here hS h)
      refine ⟨y0, y1, y2, y3, ?_, by rw [Lp_star h, hy1]; exact hyr.congr fun p _ => by simp only [Lhd]⟩
      rw [h, hy1]
      refine Ev.step (by intro k; rw [pat_ends.f]) ?_
      exact Ev.ite_neg (by decide) (Ev.ite_neg (by decide) (Ev.ite_neg (by decide) (Ev.ite_pos rfl hy)))
end Go.Proofs.Ytlkjfjlmjgkheaa.G
