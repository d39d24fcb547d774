/- The pure statement of CondOwn (laid by wip/tools/rowgen.py). -/
import Derived.Test.YtlkjfjlmjgkheaaHx32
import Derived.Test.YtlkjfjlmjgkheaaOkH
namespace Go.Proofs.Ytlkjfjlmjgkheaa.H
open Go.RowKit Go.Proofs.YtlkjfjlmjgkheaaW.PrintWords Go.Proofs.YtlkjfjlmjgkheaaW.PrintLast Go.Proofs.YtlkjfjlmjgkheaaRd Go.Proofs.Ytlkjfjlmjgkheaa.H
def CondOwn.Pure : Prop := ∀ (z0 : S46) (z1 : S50) (z2 : S50), ok46 z0 → ok50 z1 → ok50 z2 → ∃ k, dragomanlaw11_CondOwn.f k z0.f0 z0.f1 z0.f2 z0.f3 z0.f4 z0.f5 z1.f0.f0 z1.f0.f1 z1.f1 z1.f2 z1.f3 z1.f4 z1.f5 z1.f6 z2.f0.f0 z2.f0.f1 z2.f1 z2.f2 z2.f3 z2.f4 z2.f5 z2.f6 = some true
end Go.Proofs.Ytlkjfjlmjgkheaa.H
