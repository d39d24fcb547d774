/- PatJoins, its pure statement: a Cat of two, an Alt of two, by what a pattern takes. -/
import Derived.Test.YtlkjfjlmjgkheaaPe
import Derived.Test.YtlkjfjlmjgkheaaPuPatJoins
namespace Go.Proofs.Ytlkjfjlmjgkheaa.G
open Go.RowKit Go.Proofs.YtlkjfjlmjgkheaaW.PrintWords Go.Proofs.YtlkjfjlmjgkheaaW.PrintLast Go.Proofs.YtlkjfjlmjgkheaaW.PrintMore Go.Proofs.YtlkjfjlmjgkheaaRd
theorem ok25_two {a : Int} (ha : (Lit.int .i64 a).wf = true) {p q : S25} (hp : ok25 p) (hq : ok25 q) : ok25 ⟨a, [], [p, q]⟩ := by
  rw [ok25]
  exact ⟨ha, ⟨by simp, by simp⟩, by simp, by rw [ok25s, ok25s, ok25s]; exact ⟨hp, hq, trivial⟩⟩
theorem right_sub {a : Int} {p q : S25} (h : rightB ⟨a, [], [p, q]⟩ = true) (ha : a = 2 ∨ a = 3) : rightB p = true ∧ rightB q = true := by
  rw [rightB_iff] at h
  obtain ⟨h1, h2, h3⟩ := h
  have e1 := partsP_eq ⟨a, [], [p, q]⟩
  have e2 := deepP_eq ⟨a, [], [p, q]⟩
  simp only [partsL, deepL] at e1 e2
  have hf : ∀ y ∈ [p, q], fitsP y = true := by
    rcases fits_cases h3 with h | ⟨_, h⟩
    · dsimp only at h; omega
    · exact h
  exact ⟨(rightB_iff p).2 ⟨by omega, by omega, hf p (by simp)⟩, (rightB_iff q).2 ⟨by omega, by omega, hf q (by simp)⟩⟩
theorem cat_two (p q : S25) (w : List Int) : Lp ⟨2, [], [p, q]⟩ w ↔ ∃ i, i ≤ w.length ∧ Lp p (w.take i) ∧ Lp q (w.drop i) := by
  rw [Lp_cat rfl]
  simp only [Lcat]
  constructor
  · rintro ⟨u, v, rfl, hu, v1, v2, rfl, hv, rfl⟩
    refine ⟨u.length, by simp, ?_, ?_⟩
    · rw [List.take_left]; exact hu
    · rw [List.drop_left, List.append_nil]; exact hv
  · rintro ⟨i, hi, hp, hq⟩
    exact ⟨_, _, (List.take_append_drop i w).symm, hp, _, [], (List.append_nil _).symm, hq, rfl⟩
theorem alt_two (p q : S25) (w : List Int) : Lp ⟨3, [], [p, q]⟩ w ↔ Lp p w ∨ Lp q w := by
  rw [Lp_alt rfl]
  simp only [Lalt, or_false]
theorem fits_two (p q : S25) : fitsP ⟨3, [], [p, q]⟩ = fitsP ⟨2, [], [p, q]⟩ := by
  rw [fitsP_eq, fitsP_eq]; rfl
theorem right_two (p q : S25) : rightB ⟨3, [], [p, q]⟩ = rightB ⟨2, [], [p, q]⟩ := by
  unfold rightB
  rw [fits_two, partsP_eq, partsP_eq, deepP_eq, deepP_eq]
theorem joins_end (p q : S25) (hp : ok25 p) (hq : ok25 q) (np : partsP p ≤ 1000) (nq : partsP q ≤ 1000) (hr : rightB ⟨2, [], [p, q]⟩ = true) (w : List Int) (hw : w.length ≤ 30) (m : Nat) :
    ∀ (j : Nat) (c : Bool), j + m = w.length + 1 → (c = true ↔ ∃ i, i < j ∧ Lp p (w.take i) ∧ Lp q (w.drop i)) →
    Ev (fun k => dragomanlaw05_PatJoins.l0 k w c (wrap64 ((w.length : Int) + 1)) (j : Int) p.f0 p.f1 p.f2 q.f0 q.f1 q.f2 2 [⟨p.f0, p.f1, p.f2⟩, ⟨q.f0, q.f1, q.f2⟩] 3 [⟨p.f0, p.f1, p.f2⟩, ⟨q.f0, q.f1, q.f2⟩]) true := by
  obtain ⟨rp, rq⟩ := right_sub hr (Or.inl rfl)
  have hn : ∀ a, partsP ⟨a, [], [p, q]⟩ ≤ 1000000 := fun a => by rw [partsP_eq]; simp only [partsL]; omega
  have mp : ∀ v : List Int, v.length ≤ 255 → ∃ b, Ev (fun k => pat_Match.f k p.f0 p.f1 p.f2 v) b ∧ (b = true ↔ Lp p v) := fun v hv => by
    obtain ⟨b, h, h'⟩ := match_ev p hp (by omega) v
    exact ⟨b, h, (show b = true ↔ _ from h').trans ⟨fun h => h.2.2, fun h => ⟨rp, hv, h⟩⟩⟩
  have mq : ∀ v : List Int, v.length ≤ 255 → ∃ b, Ev (fun k => pat_Match.f k q.f0 q.f1 q.f2 v) b ∧ (b = true ↔ Lp q v) := fun v hv => by
    obtain ⟨b, h, h'⟩ := match_ev q hq (by omega) v
    exact ⟨b, h, (show b = true ↔ _ from h').trans ⟨fun h => h.2.2, fun h => ⟨rq, hv, h⟩⟩⟩
  have hw1 : wrap64 ((w.length : Int) + 1) = ((w.length + 1 : Nat) : Int) := w64s _ (by omega)
  rw [eta25, eta25, hw1]
  induction m with
  | zero =>
    intro j c hj hc
    obtain ⟨b1, e1, t1⟩ := match_ev ⟨2, [], [p, q]⟩ (ok25_two (by decide) hp hq) (hn 2) w
    obtain ⟨b2, e2, t2⟩ := match_ev ⟨3, [], [p, q]⟩ (ok25_two (by decide) hp hq) (hn 3) w
    obtain ⟨b3, e3, t3⟩ := mp w (by omega)
    obtain ⟨b4, e4, t4⟩ := mq w (by omega)
    unfold Takes at t1 t2
    have hcb : (b1 == c) = true := by
      rw [beq_iff_eq, Bool.eq_iff_iff, t1, hc, cat_two]
      constructor
      · rintro ⟨_, _, i, hi, h⟩; exact ⟨i, by omega, h⟩
      · rintro ⟨i, hi, h⟩; exact ⟨hr, by omega, i, by omega, h⟩
    refine Ev.step (by intro k; rw [dragomanlaw05_PatJoins.l0]) ?_
    refine Ev.ite_neg (by omega) ?_
    refine Ev.bind1 _ e1 (Ev.ite_pos hcb ?_)
    refine Ev.bind1 _ e2 ?_
    refine Ev.bind1 _ e3 ?_
    have t2' : b2 = true ↔ Lp p w ∨ Lp q w := by
      rw [t2, alt_two, right_two]
      exact ⟨fun h => h.2.2, fun h => ⟨hr, by omega, h⟩⟩
    by_cases h3 : b3 = true
    · refine Ev.ite_pos h3 ?_
      rw [t2'.2 (Or.inl (t3.1 h3))]
      exact Ev.now _
    · refine Ev.ite_neg h3 ?_
      refine Ev.bind1 _ e4 ?_
      have : b2 = b4 := by
        rw [Bool.eq_iff_iff, t2', t4]
        exact ⟨fun h => h.elim (fun h => absurd (t3.2 h) h3) id, Or.inr⟩
      rw [this, beq_self_eq_true]
      exact Ev.now _
  | succ m ih =>
    intro j c hj hc
    have hj1 : wrap64 ((j : Int) + 1) = ((j + 1 : Nat) : Int) := w64s j (by omega)
    refine Ev.step (by intro k; rw [dragomanlaw05_PatJoins.l0]) ?_
    refine Ev.ite_pos (by omega) ?_
    rw [hj1]
    by_cases h : c = true
    · refine Ev.ite_pos h ?_
      refine ih (j + 1) true (by omega) ⟨fun _ => ?_, fun _ => rfl⟩
      obtain ⟨i, hi, h'⟩ := hc.1 h
      exact ⟨i, by omega, h'⟩
    · refine Ev.ite_neg h (Ev.ite_pos (by omega) (Ev.ite_pos (by omega) ?_))
      have hno : ¬ ∃ i, i < j ∧ Lp p (w.take i) ∧ Lp q (w.drop i) := fun e => h (hc.2 e)
      obtain ⟨b1, e1, t1⟩ := mp (w.take j) (by rw [List.length_take]; omega)
      rw [show ((j : Int)).toNat = j from Int.toNat_natCast j]
      refine Ev.bind1 _ e1 ?_
      by_cases g : b1 = true
      · refine Ev.ite_pos g ?_
        obtain ⟨b2, e2, t2⟩ := mq (w.drop j) (by rw [List.length_drop]; omega)
        refine Ev.bind1 _ e2 ?_
        refine ih (j + 1) b2 (by omega) (t2.trans ⟨fun h => ⟨j, by omega, t1.1 g, h⟩, ?_⟩)
        rintro ⟨i, hi, h1, h2⟩
        by_cases e : i = j
        · rw [← e]; exact h2
        · exact absurd ⟨i, by omega, h1, h2⟩ hno
      · refine Ev.ite_neg g ?_
        refine ih (j + 1) false (by omega) ⟨fun h => (by cases h), ?_⟩
        rintro ⟨i, hi, h1, h2⟩
        by_cases e : i = j
        · subst e; exact absurd (t1.2 h1) g
        · exact absurd ⟨i, by omega, h1, h2⟩ hno
theorem PatJoins_pure : PatJoins.Pure := by
  intro p q w hp hq hw
  refine Ev.rounds (r := true) ?_
  unfold dragomanlaw05_PatJoins.f
  refine Ev.bind1 _ alive05 (Ev.ite_pos rfl ?_)
  refine Ev.some (a := [(⟨p.f0, p.f1, p.f2⟩ : S25), ⟨q.f0, q.f1, q.f2⟩]) ?_
  refine Ev.some (a := [(⟨p.f0, p.f1, p.f2⟩ : S25), ⟨q.f0, q.f1, q.f2⟩]) ?_
  have hcat : ok25 ⟨2, [], [⟨p.f0, p.f1, p.f2⟩, ⟨q.f0, q.f1, q.f2⟩]⟩ := by rw [eta25, eta25]; exact ok25_two (by decide) hp hq
  refine Ev.bind1 _ (great_ev ⟨2, [], [⟨p.f0, p.f1, p.f2⟩, ⟨q.f0, q.f1, q.f2⟩]⟩ hcat) ?_
  have done : Ev (fun k => dragomanlaw05_PatJoins.j0 k w true p.f0 p.f1 p.f2 q.f0 q.f1 q.f2 2 [⟨p.f0, p.f1, p.f2⟩, ⟨q.f0, q.f1, q.f2⟩] 3 [⟨p.f0, p.f1, p.f2⟩, ⟨q.f0, q.f1, q.f2⟩]) true := by
    refine Ev.step (by intro k; rw [dragomanlaw05_PatJoins.j0]) ?_
    exact Ev.ite_pos rfl (Ev.now _)
  by_cases g : partsP ⟨2, [], [⟨p.f0, p.f1, p.f2⟩, ⟨q.f0, q.f1, q.f2⟩]⟩ > 3000
  · rw [decide_eq_true g]
    exact Ev.ite_pos rfl done
  · rw [decide_eq_false g]
    refine Ev.ite_neg (by decide) ?_
    by_cases l : w.length ≤ 30
    · refine Ev.ite_neg (by omega) ?_
      refine Ev.bind1 _ (right_ev ⟨2, [], [⟨p.f0, p.f1, p.f2⟩, ⟨q.f0, q.f1, q.f2⟩]⟩ hcat (by omega)) ?_
      by_cases r : rightB ⟨2, [], [⟨p.f0, p.f1, p.f2⟩, ⟨q.f0, q.f1, q.f2⟩]⟩ = true
      · rw [r]
        refine Ev.step (by intro k; rw [dragomanlaw05_PatJoins.j0]) ?_
        refine Ev.ite_neg (by decide) ?_
        have r' := (rightB_iff _).1 r
        rw [eta25, eta25] at r
        have e1 := partsP_eq ⟨2, [], [⟨p.f0, p.f1, p.f2⟩, ⟨q.f0, q.f1, q.f2⟩]⟩
        rw [eta25, eta25] at e1 r'
        simp only [partsL] at e1
        exact joins_end p q hp hq (by omega) (by omega) r w l (w.length + 1) 0 false (by omega) ⟨fun h => (by cases h), fun ⟨i, hi, _⟩ => (by omega)⟩
      · rw [Bool.eq_false_iff.2 r]
        exact done
    · exact Ev.ite_pos (by omega) done
end Go.Proofs.Ytlkjfjlmjgkheaa.G
