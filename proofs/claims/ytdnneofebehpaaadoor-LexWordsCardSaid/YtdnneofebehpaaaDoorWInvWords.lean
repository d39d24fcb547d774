import Derived.Test.YtdnneofebehpaaaDoorWInv
import Derived.Test.YtdnneofebehpaaaDoorWFootNe
namespace Go.Proofs.YtdnneofebehpaaaDoorW.PrintWords
open Go.RowKit
end Go.Proofs.YtdnneofebehpaaaDoorW.PrintWords
namespace Go.Proofs.YtdnneofebehpaaaDoorW.PrintLast
section
variable {ops : Array Oper} {a : Act} {o og : Oper} {g : Nat} {t : Tmp} {u : Bool}
end
end Go.Proofs.YtdnneofebehpaaaDoorW.PrintLast
