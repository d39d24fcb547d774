/- The pure statement of PatSizes, proved. -/
import Derived.Test.YtlkjfjlmjgkheaaPuPatSizes
import Derived.Test.YtlkjfjlmjgkheaaPa
namespace Go.Proofs.Ytlkjfjlmjgkheaa.G
open Go.RowKit Go.Proofs.YtlkjfjlmjgkheaaW.PrintWords Go.Proofs.YtlkjfjlmjgkheaaW.PrintLast Go.Proofs.YtlkjfjlmjgkheaaRd Go.Proofs.Ytlkjfjlmjgkheaa.G
theorem PatSizes_pure : PatSizes.Pure := by
  intro x hx
  refine Ev.rounds (r := true) ?_
  unfold dragomanlaw05_PatSizes.f
  refine Ev.bind1 _ alive05 (Ev.ite_pos rfl (Ev.bind1 _ (great_ev x hx) ?_))
  by_cases hg : partsP x > 3000
  · exact Ev.ite_pos (by simpa using hg) (Ev.now _)
  · refine Ev.ite_neg (by simpa using hg) ?_
    obtain ⟨d, h, hd⟩ := rsize x hx
    refine Ev.bind1 _ (psize x hx (by omega)) (Ev.bind1 _ h (Ev.ite_pos (by dsimp only; omega) ?_))
    dsimp only
    rw [hd (by omega)]
    simpa using Ev.now true
end Go.Proofs.Ytlkjfjlmjgkheaa.G
