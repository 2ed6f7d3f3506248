import Derived.Test.YtnjfddmajiihjaaWInv
import Derived.Test.YtnjfddmajiihjaaWFootNe
namespace Go.Proofs.YtnjfddmajiihjaaW.PrintWords
open Go.RowKit
end Go.Proofs.YtnjfddmajiihjaaW.PrintWords
namespace Go.Proofs.YtnjfddmajiihjaaW.PrintLast
section
variable {ops : Array Oper} {a : Act} {o og : Oper} {g : Nat} {t : Tmp} {u : Bool}
end
end Go.Proofs.YtnjfddmajiihjaaW.PrintLast
