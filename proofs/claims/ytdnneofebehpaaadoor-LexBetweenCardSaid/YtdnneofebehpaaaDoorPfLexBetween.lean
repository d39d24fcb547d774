/- The pure statement of LexBetween, proved. -/
import Derived.Test.YtdnneofebehpaaaDoorPuLexBetween
import Derived.Test.YtdnneofebehpaaaDoorQg
namespace Go.Proofs.YtdnneofebehpaaaDoor.L
open Go.RowKit Go.Proofs.YtdnneofebehpaaaDoorW.PrintWords Go.Proofs.YtdnneofebehpaaaDoorW.PrintLast Go.Proofs.YtdnneofebehpaaaDoorRd Go.Proofs.YtdnneofebehpaaaDoor.L
theorem LexBetween_pure : LexBetween.Pure := fun z0 z1 _ h => (lexBetween_ev z0 z1 (by have h' : (Lit.int .u8 z1).wf = true := h; simp [Lit.wf] at h'; have hm : IntKind.u8.min = 0 := rfl; omega)).rounds
end Go.Proofs.YtdnneofebehpaaaDoor.L
