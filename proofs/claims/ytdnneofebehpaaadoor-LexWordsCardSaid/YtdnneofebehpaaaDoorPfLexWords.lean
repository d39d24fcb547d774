/- The pure statement of LexWords, proved. -/
import Derived.Test.YtdnneofebehpaaaDoorPuLexWords
import Derived.Test.YtdnneofebehpaaaDoorQh
namespace Go.Proofs.YtdnneofebehpaaaDoor.L
open Go.RowKit Go.Proofs.YtdnneofebehpaaaDoorW.PrintWords Go.Proofs.YtdnneofebehpaaaDoorW.PrintLast Go.Proofs.YtdnneofebehpaaaDoorRd Go.Proofs.YtdnneofebehpaaaDoor.L
theorem LexWords_pure : LexWords.Pure := fun z0 _ => (lexWords_ev z0).rounds
end Go.Proofs.YtdnneofebehpaaaDoor.L
