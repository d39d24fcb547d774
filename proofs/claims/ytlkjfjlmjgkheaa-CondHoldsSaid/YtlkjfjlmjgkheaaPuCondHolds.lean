/- The pure statement of CondHolds (laid by wip/tools/rowgen.py). -/
import Derived.Test.YtlkjfjlmjgkheaaHx35
import Derived.Test.YtlkjfjlmjgkheaaOkH
namespace Go.Proofs.Ytlkjfjlmjgkheaa.H
open Go.RowKit Go.Proofs.YtlkjfjlmjgkheaaW.PrintWords Go.Proofs.YtlkjfjlmjgkheaaW.PrintLast Go.Proofs.YtlkjfjlmjgkheaaRd Go.Proofs.Ytlkjfjlmjgkheaa.H
def CondHolds.Pure : Prop := ∀ (z0 : S46) (z1 : S50), ok46 z0 → ok50 z1 → ∃ k, dragomanlaw11_CondHolds.f k z0.f0 z0.f1 z0.f2 z0.f3 z0.f4 z0.f5 z1.f0.f0 z1.f0.f1 z1.f1 z1.f2 z1.f3 z1.f4 z1.f5 z1.f6 = some true
end Go.Proofs.Ytlkjfjlmjgkheaa.H
