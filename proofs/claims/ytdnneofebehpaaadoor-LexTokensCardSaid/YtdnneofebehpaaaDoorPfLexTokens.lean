/- The pure statement of LexTokens, proved. -/
import Derived.Test.YtdnneofebehpaaaDoorPuLexTokens
import Derived.Test.YtdnneofebehpaaaDoorQe
namespace Go.Proofs.YtdnneofebehpaaaDoor.L
open Go.RowKit Go.Proofs.YtdnneofebehpaaaDoorW.PrintWords Go.Proofs.YtdnneofebehpaaaDoorW.PrintLast Go.Proofs.YtdnneofebehpaaaDoorRd Go.Proofs.YtdnneofebehpaaaDoor.L
theorem LexTokens_pure : LexTokens.Pure := fun z0 _ => (lexTokens_ev z0).rounds
end Go.Proofs.YtdnneofebehpaaaDoor.L
