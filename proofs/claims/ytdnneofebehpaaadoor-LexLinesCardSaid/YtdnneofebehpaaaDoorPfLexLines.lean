/- The pure statement of LexLines, proved. -/
import Derived.Test.YtdnneofebehpaaaDoorPuLexLines
import Derived.Test.YtdnneofebehpaaaDoorQd
namespace Go.Proofs.YtdnneofebehpaaaDoor.L
open Go.RowKit Go.Proofs.YtdnneofebehpaaaDoorW.PrintWords Go.Proofs.YtdnneofebehpaaaDoorW.PrintLast Go.Proofs.YtdnneofebehpaaaDoorRd Go.Proofs.YtdnneofebehpaaaDoor.L
theorem LexLines_pure : LexLines.Pure := fun z0 _ => (lexLines_ev z0).rounds
end Go.Proofs.YtdnneofebehpaaaDoor.L
