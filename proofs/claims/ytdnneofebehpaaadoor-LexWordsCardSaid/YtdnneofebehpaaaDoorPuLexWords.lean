/- The pure statement of LexWords (laid by wip/tools/rowgen.py). -/
import Derived.Test.YtdnneofebehpaaaDoorLx22
import Derived.Test.YtdnneofebehpaaaDoorOkL
namespace Go.Proofs.YtdnneofebehpaaaDoor.L
open Go.RowKit Go.Proofs.YtdnneofebehpaaaDoorW.PrintWords Go.Proofs.YtdnneofebehpaaaDoorW.PrintLast Go.Proofs.YtdnneofebehpaaaDoorRd Go.Proofs.YtdnneofebehpaaaDoor.L
def LexWords.Pure : Prop := ∀ (z0 : ByteArray), (fun a : ByteArray => a.size ≤ 140737488351232) z0 → ∃ k, dragomanlaw14_LexWords.f k z0 = some true
end Go.Proofs.YtdnneofebehpaaaDoor.L
