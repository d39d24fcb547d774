/- The pure statement of LexBetween (laid by wip/tools/rowgen.py). -/
import Derived.Test.YtdnneofebehpaaaDoorLx18
import Derived.Test.YtdnneofebehpaaaDoorOkL
namespace Go.Proofs.YtdnneofebehpaaaDoor.L
open Go.RowKit Go.Proofs.YtdnneofebehpaaaDoorW.PrintWords Go.Proofs.YtdnneofebehpaaaDoorW.PrintLast Go.Proofs.YtdnneofebehpaaaDoorRd Go.Proofs.YtdnneofebehpaaaDoor.L
def LexBetween.Pure : Prop := ∀ (z0 : ByteArray) (z1 : Int), (fun a : ByteArray => a.size ≤ 140737488351232) z0 → (fun a : Int => (Lit.int .u8 a).wf = true) z1 → ∃ k, dragomanlaw14_LexBetween.f k z0 z1 = some true
end Go.Proofs.YtdnneofebehpaaaDoor.L
