/- PatStars, its pure statement: a Star, by what a pattern takes. -/
import Derived.Test.YtlkjfjlmjgkheaaPe
import Derived.Test.YtlkjfjlmjgkheaaPuPatStars
namespace Go.Proofs.Ytlkjfjlmjgkheaa.G
open Go.RowKit Go.Proofs.YtlkjfjlmjgkheaaW.PrintWords Go.Proofs.YtlkjfjlmjgkheaaW.PrintLast Go.Proofs.YtlkjfjlmjgkheaaW.PrintMore Go.Proofs.YtlkjfjlmjgkheaaRd
theorem ok25_one {a : Int} (ha : (Lit.int .i64 a).wf = true) {p : S25} (hp : ok25 p) : ok25 ⟨a, [], [p]⟩ := by
  rw [ok25]
  exact ⟨ha, ⟨by simp, by simp⟩, by simp, by rw [ok25s, ok25s]; exact ⟨hp, trivial⟩⟩
theorem right_star {p : S25} (h : rightB ⟨4, [], [p]⟩ = true) : rightB p = true := by
  rw [rightB_iff] at h
  obtain ⟨h1, h2, h3⟩ := h
  have e1 := partsP_eq ⟨4, [], [p]⟩
  have e2 := deepP_eq ⟨4, [], [p]⟩
  simp only [partsL, deepL] at e1 e2
  have hf : ∀ y ∈ [p], fitsP y = true := by
    rcases fits_cases h3 with h | ⟨_, h⟩
    · dsimp only at h; omega
    · exact h
  exact (rightB_iff p).2 ⟨by omega, by omega, hf p (by simp)⟩
theorem star_front {P : List Int → Prop} {w : List Int} : StarOf P w ↔ w = [] ∨ ∃ i, 1 ≤ i ∧ i ≤ w.length ∧ P (w.take i) ∧ StarOf P (w.drop i) := by
  constructor
  · intro h
    induction h with
    | nil => exact Or.inl rfl
    | @cons u v hu hv ih =>
      by_cases c : u = []
      · subst c; exact ih
      · right
        have : 1 ≤ u.length := by
          cases u with
          | nil => exact absurd rfl c
          | cons _ _ => simp
        refine ⟨u.length, this, by simp, ?_, ?_⟩
        · rw [List.take_left]; exact hu
        · rw [List.drop_left]; exact hv
  · rintro (rfl | ⟨i, _, _, hu, hv⟩)
    · exact StarOf.nil
    · have := StarOf.cons hu hv
      rwa [List.take_append_drop] at this
theorem star_one (p : S25) (w : List Int) : Lp ⟨4, [], [p]⟩ w ↔ StarOf (Lp p) w := by
  rw [Lp_star rfl]
  simp only [Lhd]
theorem stars_end (p : S25) (hp : ok25 p) (np : partsP p ≤ 1000) (hr : rightB ⟨4, [], [p]⟩ = true) (w : List Int) (hw : w.length ≤ 30) (m : Nat) :
    ∀ (j : Nat) (c : Bool), 1 ≤ j → j + m = w.length + 1 → (c = true ↔ (w = [] ∨ ∃ i, 1 ≤ i ∧ i < j ∧ Lp p (w.take i) ∧ StarOf (Lp p) (w.drop i))) →
    Ev (fun k => dragomanlaw05_PatStars.l0 k w c (j : Int) p.f0 p.f1 p.f2 4 [⟨p.f0, p.f1, p.f2⟩]) true := by
  have rp := right_star hr
  have hs := ok25_one (a := 4) (by decide) hp
  have hn : partsP ⟨4, [], [p]⟩ ≤ 1000000 := by rw [partsP_eq]; simp only [partsL]; omega
  have mp : ∀ v : List Int, v.length ≤ 255 → ∃ b, Ev (fun k => pat_Match.f k p.f0 p.f1 p.f2 v) b ∧ (b = true ↔ Lp p v) := fun v hv => by
    obtain ⟨b, h, h'⟩ := match_ev p hp (by omega) v
    exact ⟨b, h, (show b = true ↔ _ from h').trans ⟨fun h => h.2.2, fun h => ⟨rp, hv, h⟩⟩⟩
  have ms : ∀ v : List Int, v.length ≤ 255 → ∃ b, Ev (fun k => pat_Match.f k 4 [] [p] v) b ∧ (b = true ↔ StarOf (Lp p) v) := fun v hv => by
    obtain ⟨b, h, h'⟩ := match_ev ⟨4, [], [p]⟩ hs hn v
    exact ⟨b, h, (show b = true ↔ _ from h').trans ⟨fun h => (star_one p v).1 h.2.2, fun h => ⟨hr, hv, (star_one p v).2 h⟩⟩⟩
  have me : ∃ b, Ev (fun k => pat_Empty.f k 4 [] [p]) b ∧ b = true := by
    obtain ⟨b, h, h'⟩ := empty_ev ⟨4, [], [p]⟩ hs hn
    exact ⟨b, h, (show b = true ↔ _ from h').2 ⟨hr, by simp, (star_one p []).2 StarOf.nil⟩⟩
  rw [eta25]
  induction m with
  | zero =>
    intro j c h1 hj hc
    obtain ⟨b1, e1, t1⟩ := me
    obtain ⟨b2, e2, t2⟩ := ms w (by omega)
    refine Ev.step (by intro k; rw [dragomanlaw05_PatStars.l0]) ?_
    refine Ev.ite_neg (by omega) ?_
    refine Ev.bind1 _ e1 (Ev.ite_pos t1 ?_)
    refine Ev.bind1 _ e2 ?_
    have : b2 = c := by
      rw [Bool.eq_iff_iff, t2, hc, star_front]
      constructor
      · rintro (h | ⟨i, a, b, h⟩)
        · exact Or.inl h
        · exact Or.inr ⟨i, a, by omega, h⟩
      · rintro (h | ⟨i, a, b, h⟩)
        · exact Or.inl h
        · exact Or.inr ⟨i, a, by omega, h⟩
    rw [this, beq_self_eq_true]
    exact Ev.now _
  | succ m ih =>
    intro j c h1 hj hc
    have hj1 : wrap64 ((j : Int) + 1) = ((j + 1 : Nat) : Int) := w64s j (by omega)
    refine Ev.step (by intro k; rw [dragomanlaw05_PatStars.l0]) ?_
    refine Ev.ite_pos (by omega) ?_
    rw [hj1]
    by_cases h : c = true
    · refine Ev.ite_pos h ?_
      refine ih (j + 1) true (by omega) (by omega) ⟨fun _ => ?_, fun _ => rfl⟩
      rcases hc.1 h with h | ⟨i, a, hi, h'⟩
      · exact Or.inl h
      · exact Or.inr ⟨i, a, by omega, h'⟩
    · refine Ev.ite_neg h (Ev.ite_pos (by omega) ?_)
      have hno : ¬ (w = [] ∨ ∃ i, 1 ≤ i ∧ i < j ∧ Lp p (w.take i) ∧ StarOf (Lp p) (w.drop i)) := fun e => h (hc.2 e)
      obtain ⟨b1, e1, t1⟩ := mp (w.take j) (by rw [List.length_take]; omega)
      rw [show ((j : Int)).toNat = j from Int.toNat_natCast j]
      refine Ev.bind1 _ e1 ?_
      by_cases g : b1 = true
      · refine Ev.ite_pos g ?_
        obtain ⟨b2, e2, t2⟩ := ms (w.drop j) (by rw [List.length_drop]; omega)
        refine Ev.bind1 _ e2 ?_
        refine ih (j + 1) b2 (by omega) (by omega) (t2.trans ⟨fun h => Or.inr ⟨j, h1, by omega, t1.1 g, h⟩, ?_⟩)
        rintro (h | ⟨i, a, hi, h3, h2⟩)
        · exact absurd (Or.inl h) hno
        · by_cases e : i = j
          · rw [← e]; exact h2
          · exact absurd (Or.inr ⟨i, a, by omega, h3, h2⟩) hno
      · refine Ev.ite_neg g ?_
        refine ih (j + 1) false (by omega) (by omega) ⟨fun h => (by cases h), ?_⟩
        rintro (h | ⟨i, a, hi, h3, h2⟩)
        · exact absurd (Or.inl h) hno
        · by_cases e : i = j
          · subst e; exact absurd (t1.2 h3) g
          · exact absurd (Or.inr ⟨i, a, by omega, h3, h2⟩) hno
theorem PatStars_pure : PatStars.Pure := by
  intro p w hp hw
  refine Ev.rounds (r := true) ?_
  unfold dragomanlaw05_PatStars.f
  refine Ev.bind1 _ alive05 (Ev.ite_pos rfl ?_)
  refine Ev.some (a := [(⟨p.f0, p.f1, p.f2⟩ : S25)]) ?_
  refine Ev.bind1 _ (great_ev p hp) ?_
  have done : Ev (fun k => dragomanlaw05_PatStars.j0 k w true p.f0 p.f1 p.f2 4 [⟨p.f0, p.f1, p.f2⟩]) true := by
    refine Ev.step (by intro k; rw [dragomanlaw05_PatStars.j0]) ?_
    exact Ev.ite_pos rfl (Ev.now _)
  by_cases g : partsP p > 3000
  · rw [decide_eq_true g]
    exact Ev.ite_pos rfl done
  · rw [decide_eq_false g]
    refine Ev.ite_neg (by decide) ?_
    have hst : ok25 ⟨4, [], [⟨p.f0, p.f1, p.f2⟩]⟩ := by rw [eta25]; exact ok25_one (by decide) hp
    have e1 := partsP_eq ⟨4, [], [⟨p.f0, p.f1, p.f2⟩]⟩
    simp only [partsL] at e1
    rw [eta25] at e1
    by_cases l : w.length ≤ 30
    · refine Ev.ite_neg (by omega) ?_
      refine Ev.bind1 _ (right_ev ⟨4, [], [⟨p.f0, p.f1, p.f2⟩]⟩ hst (by rw [eta25]; omega)) ?_
      by_cases r : rightB ⟨4, [], [⟨p.f0, p.f1, p.f2⟩]⟩ = true
      · rw [r]
        refine Ev.step (by intro k; rw [dragomanlaw05_PatStars.j0]) ?_
        refine Ev.ite_neg (by decide) ?_
        rw [eta25] at r
        have r' := (rightB_iff _).1 r
        refine stars_end p hp (by omega) r w l w.length 1 _ (by omega) (by omega) ?_
        rw [beq_iff_eq]
        constructor
        · intro h; exact Or.inl (List.eq_nil_of_length_eq_zero (by omega))
        · rintro (rfl | ⟨i, a, b, _⟩)
          · rfl
          · omega
      · rw [Bool.eq_false_iff.2 r]
        exact done
    · exact Ev.ite_pos (by omega) done
end Go.Proofs.Ytlkjfjlmjgkheaa.G
