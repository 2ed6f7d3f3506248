import Derived.SizedLaws
import Derived.ChangeSlices
namespace Go.Proofs.YtdooampgkiodjaaW.PrintWords
open Go.ChangeShapes Go.WideShapes
end Go.Proofs.YtdooampgkiodjaaW.PrintWords
