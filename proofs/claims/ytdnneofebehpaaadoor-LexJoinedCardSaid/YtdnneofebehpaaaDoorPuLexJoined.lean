/- The pure statement of LexJoined (laid by wip/tools/rowgen.py). -/
import Derived.Test.YtdnneofebehpaaaDoorLx17
import Derived.Test.YtdnneofebehpaaaDoorOkL
namespace Go.Proofs.YtdnneofebehpaaaDoor.L
open Go.RowKit Go.Proofs.YtdnneofebehpaaaDoorW.PrintWords Go.Proofs.YtdnneofebehpaaaDoorW.PrintLast Go.Proofs.YtdnneofebehpaaaDoorRd Go.Proofs.YtdnneofebehpaaaDoor.L
def LexJoined.Pure : Prop := ∀ (z0 : List (List ByteArray)) (z1 : Bool), (fun xs : List (List ByteArray) => xs.length * 24 ≤ 140737488351232 ∧ ∀ x ∈ xs, (fun xs : List ByteArray => xs.length * 16 ≤ 140737488351232 ∧ ∀ x ∈ xs, (fun a : ByteArray => a.size ≤ 140737488351232) x) x) z0 → (fun _ : Bool => True) z1 → ∃ k, dragomanlaw14_LexJoined.f k z0 z1 = some true
end Go.Proofs.YtdnneofebehpaaaDoor.L
