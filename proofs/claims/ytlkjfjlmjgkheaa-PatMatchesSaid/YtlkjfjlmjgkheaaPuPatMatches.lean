/- The pure statement of PatMatches (laid by wip/tools/rowgen.py). -/
import Derived.Test.YtlkjfjlmjgkheaaGx17
import Derived.Test.YtlkjfjlmjgkheaaOk
namespace Go.Proofs.Ytlkjfjlmjgkheaa.G
open Go.RowKit Go.Proofs.YtlkjfjlmjgkheaaW.PrintWords Go.Proofs.YtlkjfjlmjgkheaaW.PrintLast Go.Proofs.YtlkjfjlmjgkheaaRd Go.Proofs.Ytlkjfjlmjgkheaa.G
def PatMatches.Pure : Prop := ∀ (z0 : S25) (z1 : List Int), ok25 z0 → (fun xs : List Int => xs.length * 4 ≤ 140737488351232 ∧ ∀ x ∈ xs, (fun a : Int => (Lit.int .u32 a).wf = true) x) z1 → ∃ k, l5_PatMatches.f k z0.f0 z0.f1 z0.f2 z1 = some true
end Go.Proofs.Ytlkjfjlmjgkheaa.G
