/- Of what is read: its numbers are of their kinds, its lists and strings within the reach (laid by wip/tools/rowgen.py). -/
import Derived.Test.YtdnneofebehpaaaDoorLx0
import Derived.Test.YtdnneofebehpaaaDoorRd
namespace Go.Proofs.YtdnneofebehpaaaDoor.L
open Go.RowKit Go.Proofs.YtdnneofebehpaaaDoorW.PrintWords Go.Proofs.YtdnneofebehpaaaDoorW.PrintLast Go.Proofs.YtdnneofebehpaaaDoorRd Go.Proofs.YtdnneofebehpaaaDoor.L
set_option linter.unusedVariables false
end Go.Proofs.YtdnneofebehpaaaDoor.L
