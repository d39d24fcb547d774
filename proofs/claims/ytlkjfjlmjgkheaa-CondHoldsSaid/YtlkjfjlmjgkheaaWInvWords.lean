import Derived.Test.YtlkjfjlmjgkheaaWInv
import Derived.Test.YtlkjfjlmjgkheaaWFootNe
namespace Go.Proofs.YtlkjfjlmjgkheaaW.PrintWords
open Go.RowKit
end Go.Proofs.YtlkjfjlmjgkheaaW.PrintWords
namespace Go.Proofs.YtlkjfjlmjgkheaaW.PrintLast
section
variable {ops : Array Oper} {a : Act} {o og : Oper} {g : Nat} {t : Tmp} {u : Bool}
end
end Go.Proofs.YtlkjfjlmjgkheaaW.PrintLast
