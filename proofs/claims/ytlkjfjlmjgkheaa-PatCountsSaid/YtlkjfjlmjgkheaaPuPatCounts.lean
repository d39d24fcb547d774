/- The pure statement of PatCounts (laid by wip/tools/rowgen.py). -/
import Derived.Test.YtlkjfjlmjgkheaaGx20
import Derived.Test.YtlkjfjlmjgkheaaOk
namespace Go.Proofs.Ytlkjfjlmjgkheaa.G
open Go.RowKit Go.Proofs.YtlkjfjlmjgkheaaW.PrintWords Go.Proofs.YtlkjfjlmjgkheaaW.PrintLast Go.Proofs.YtlkjfjlmjgkheaaRd Go.Proofs.Ytlkjfjlmjgkheaa.G
def PatCounts.Pure : Prop := ∀ (z0 : Int) (z1 : Int) (z2 : Int), (fun a : Int => (Lit.int .u8 a).wf = true) z0 → (fun a : Int => (Lit.int .u8 a).wf = true) z1 → (fun a : Int => (Lit.int .u8 a).wf = true) z2 → ∃ k, dragomanlaw05_PatCounts.f k z0 z1 z2 = some true
end Go.Proofs.Ytlkjfjlmjgkheaa.G
