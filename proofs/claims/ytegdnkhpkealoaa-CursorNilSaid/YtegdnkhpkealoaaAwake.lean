/- The chapter's examples hold. -/
import Derived.Test.YtegdnkhpkealoaaBytes
import Derived.Test.YtegdnkhpkealoaaPx5
namespace Go.Proofs.Ytegdnkhpkealoaa.Num
set_option linter.unusedVariables false
set_option linter.unusedSimpArgs false
open Go Go.RowKit Go.Proofs.Ytegdnkhpkealoaa.P Go.Proofs.YtegdnkhpkealoaaW.PrintWords
theorem awake_eq (k : Nat) (hk : 100 ≤ k) : portmanteaulaw01_awake.f k = some true := by
  refine at_rounds (fun k => portmanteaulaw01_awake.mono k) hk ?_
  decide +kernel
end Go.Proofs.Ytegdnkhpkealoaa.Num
