import Derived.Test.YtnjfddmajiihjaaPx0
import Derived.Test.YtnjfddmajiihjaaPx11
import Derived.Test.YtnjfddmajiihjaaPx12
namespace Go.Proofs.Ytnjfddmajiihjaa.P
open Go.RowKit Go.Proofs.YtnjfddmajiihjaaW.PrintWords Go.Proofs.YtnjfddmajiihjaaW.PrintLast Go.Proofs.YtnjfddmajiihjaaW.PrintMore
attribute [local go_sem] max2_int min2_int max_two min_two max_three min_three max_four min_four
attribute [local go_sem] Go.Proofs.Ytnjfddmajiihjaa.Mx.max_five Go.Proofs.Ytnjfddmajiihjaa.Mx.max_six Go.Proofs.Ytnjfddmajiihjaa.Mx.max_seven
set_option linter.unusedVariables false
set_option linter.unusedSimpArgs false
end Go.Proofs.Ytnjfddmajiihjaa.P
