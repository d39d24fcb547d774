/- The pure statement of LexJoined, proved. -/
import Derived.Test.YtdnneofebehpaaaDoorPuLexJoined
import Derived.Test.YtdnneofebehpaaaDoorQf
namespace Go.Proofs.YtdnneofebehpaaaDoor.L
open Go.RowKit Go.Proofs.YtdnneofebehpaaaDoorW.PrintWords Go.Proofs.YtdnneofebehpaaaDoorW.PrintLast Go.Proofs.YtdnneofebehpaaaDoorRd Go.Proofs.YtdnneofebehpaaaDoor.L
theorem LexJoined_pure : LexJoined.Pure := fun z0 z1 h _ => (lexJoined_ev z0 z1 (by have := h.1; omega) (fun x hx => by have := (h.2 x hx).1; omega)).rounds
end Go.Proofs.YtdnneofebehpaaaDoor.L
