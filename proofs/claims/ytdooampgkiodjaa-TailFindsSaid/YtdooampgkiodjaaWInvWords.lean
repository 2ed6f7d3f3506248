import Derived.Test.YtdooampgkiodjaaWInv
import Derived.Test.YtdooampgkiodjaaWFootNe
namespace Go.Proofs.YtdooampgkiodjaaW.PrintWords
open Go.RowKit
end Go.Proofs.YtdooampgkiodjaaW.PrintWords
namespace Go.Proofs.YtdooampgkiodjaaW.PrintLast
section
variable {ops : Array Oper} {a : Act} {o og : Oper} {g : Nat} {t : Tmp} {u : Bool}
end
end Go.Proofs.YtdooampgkiodjaaW.PrintLast
