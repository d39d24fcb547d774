/- Patterns, plainly: whether a pattern is right, and what it takes, by the program. -/
import Derived.Test.YtlkjfjlmjgkheaaGx6
import Derived.Test.YtlkjfjlmjgkheaaPd
namespace Go.Proofs.Ytlkjfjlmjgkheaa.G
open Go.RowKit Go.Proofs.YtlkjfjlmjgkheaaW.PrintWords Go.Proofs.YtlkjfjlmjgkheaaW.PrintLast Go.Proofs.YtlkjfjlmjgkheaaW.PrintMore Go.Proofs.YtlkjfjlmjgkheaaRd
def rightB (x : S25) : Bool := decide (partsP x ≤ 200) && (decide (deepP x ≤ 40) && fitsP x)
theorem rightB_iff (x : S25) : rightB x = true ↔ partsP x ≤ 200 ∧ deepP x ≤ 40 ∧ fitsP x = true := by
  simp only [rightB, Bool.and_eq_true, decide_eq_true_eq]
theorem right_ev (x : S25) (hx : ok25 x) (hp : partsP x ≤ 1000000) : Ev (fun k => pat_Right.f k x.f0 x.f1 x.f2) (rightB x) := by
  unfold pat_Right.f
  refine Ev.bind1 _ (psize x hx hp) ?_
  dsimp only
  unfold rightB
  by_cases h : partsP x ≤ 200
  · refine Ev.ite_pos (by omega) ?_
    rw [decide_eq_true h, Bool.true_and]
    by_cases h' : deepP x ≤ 40
    · refine Ev.ite_pos (by omega) ?_
      rw [decide_eq_true h', Bool.true_and]
      refine Ev.bind1 (fitsP x) ?_ (Ev.now _)
      show Ev (fun _ => some (fitsP ⟨x.f0, x.f1, x.f2⟩)) _
      rw [eta25]
      exact Ev.now _
    · rw [decide_eq_false h', Bool.false_and]
      exact Ev.ite_neg (by omega) (Ev.now _)
  · rw [decide_eq_false h, Bool.false_and]
    exact Ev.ite_neg (by omega) (Ev.now _)
def Takes (x : S25) (path : List Int) (b : Bool) : Prop := b = true ↔ rightB x = true ∧ path.length ≤ 255 ∧ Lp x path
theorem match_ev (x : S25) (hx : ok25 x) (hp : partsP x ≤ 1000000) (path : List Int) : ∃ b, Ev (fun k => pat_Match.f k x.f0 x.f1 x.f2 path) b ∧ Takes x path b := by
  by_cases hr : rightB x = true
  · by_cases hl : path.length ≤ 255
    · obtain ⟨u0, u1, u2, u3, hu, hur⟩ := put_rep RepW.none 0 (by omega)
      obtain ⟨y0, y1, y2, y3, hy, hyr⟩ := ends_ev path hl x hx ((rightB_iff x).1 hr).2.2 u0 u1 u2 u3 (fun i => i = 0) (hur.congr fun i _ => by simp) (fun i h => by omega)
      obtain ⟨b, hb, hbS⟩ := has_rep hyr path.length (by omega)
      refine ⟨b, ?_, hbS.trans ?_⟩
      · unfold pat_Match.f
        refine Ev.bind1 _ (right_ev x hx hp) (Ev.ite_pos hr ?_)
        rw [decide_eq_false (by omega)]
        refine Ev.step (by intro k; rw [pat_Match.j0]) ?_
        refine Ev.ite_neg (by decide) ?_
        refine Ev.bind1 _ (hu ▸ Ev.now _) ?_
        refine Ev.bind1 _ hy ?_
        refine Ev.bind1 _ (hb ▸ Ev.now _) (Ev.now _)
      · rw [En.whole]
        exact ⟨fun h => ⟨hr, hl, h⟩, fun h => h.2.2⟩
    · refine ⟨false, ?_, by simp [Takes, hl]⟩
      unfold pat_Match.f
      refine Ev.bind1 _ (right_ev x hx hp) (Ev.ite_pos hr ?_)
      rw [decide_eq_true (by omega)]
      refine Ev.step (by intro k; rw [pat_Match.j0]) ?_
      exact Ev.ite_pos rfl (Ev.now _)
  · refine ⟨false, ?_, by simp [Takes, hr]⟩
    unfold pat_Match.f
    refine Ev.bind1 _ (right_ev x hx hp) (Ev.ite_neg hr ?_)
    refine Ev.step (by intro k; rw [pat_Match.j0]) ?_
    exact Ev.ite_pos rfl (Ev.now _)
theorem empty_ev (x : S25) (hx : ok25 x) (hp : partsP x ≤ 1000000) : ∃ b, Ev (fun k => pat_Empty.f k x.f0 x.f1 x.f2) b ∧ Takes x [] b := by
  obtain ⟨b, h, h'⟩ := match_ev x hx hp []
  refine ⟨b, ?_, h'⟩
  unfold pat_Empty.f
  exact Ev.bind1 _ h (Ev.now _)
theorem takes_eq {x : S25} {path : List Int} {b c : Bool} (h : Takes x path b) (h' : Takes x path c) : b = c := by
  unfold Takes at h h'
  rw [Bool.eq_iff_iff, h, h']
end Go.Proofs.Ytlkjfjlmjgkheaa.G
