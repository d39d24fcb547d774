/- The pure statement of PatSizes (laid by wip/tools/rowgen.py). -/
import Derived.Test.YtlkjfjlmjgkheaaGx9
import Derived.Test.YtlkjfjlmjgkheaaOk
namespace Go.Proofs.Ytlkjfjlmjgkheaa.G
open Go.RowKit Go.Proofs.YtlkjfjlmjgkheaaW.PrintWords Go.Proofs.YtlkjfjlmjgkheaaW.PrintLast Go.Proofs.YtlkjfjlmjgkheaaRd Go.Proofs.Ytlkjfjlmjgkheaa.G
def PatSizes.Pure : Prop := ∀ (z0 : S25), ok25 z0 → ∃ k, dragomanlaw05_PatSizes.f k z0.f0 z0.f1 z0.f2 = some true
end Go.Proofs.Ytlkjfjlmjgkheaa.G
