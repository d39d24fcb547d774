import Derived.Test.YtdnneofebehpaaaGreatDoorWInv
import Derived.Test.YtdnneofebehpaaaGreatDoorWFootNe
namespace Go.Proofs.YtdnneofebehpaaaGreatDoorW.PrintWords
open Go.RowKit
end Go.Proofs.YtdnneofebehpaaaGreatDoorW.PrintWords
namespace Go.Proofs.YtdnneofebehpaaaGreatDoorW.PrintLast
section
variable {ops : Array Oper} {a : Act} {o og : Oper} {g : Nat} {t : Tmp} {u : Bool}
end
end Go.Proofs.YtdnneofebehpaaaGreatDoorW.PrintLast
