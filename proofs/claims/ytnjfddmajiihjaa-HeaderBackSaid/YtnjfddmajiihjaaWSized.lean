import Derived.SizedLaws
import Derived.ChangeSlices
namespace Go.Proofs.YtnjfddmajiihjaaW.PrintWords
open Go.ChangeShapes Go.WideShapes
end Go.Proofs.YtnjfddmajiihjaaW.PrintWords
