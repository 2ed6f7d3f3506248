/- awake of the fourteenth chapter: its example, closed. -/
import Derived.Test.YtloojhhjljneeaaNumO4
import Derived.Test.YtloojhhjljneeaaPx1
namespace Go.Proofs.Ytloojhhjljneeaa.Walk
set_option linter.unusedVariables false
set_option linter.unusedSimpArgs false
open Go Go.RowKit Go.Proofs.Ytloojhhjljneeaa.P Go.Proofs.Ytloojhhjljneeaa.B Go.Proofs.Ytloojhhjljneeaa.Num Go.Proofs.YtloojhhjljneeaaW.PrintWords Go.Proofs.YtloojhhjljneeaaW.PrintLast Go.Proofs.YtloojhhjljneeaaW.PrintMore

theorem awake_true : portmanteaulaw14_awake.f 100 = some true := by
  have h1 := four_eq 1 (by decide) 100 (by omega)
  have h2 := four_eq 2 (by decide) 100 (by omega)
  have hp : field_PrintOwner.f 100 1 2 = some (strN [1, 4, 1, 0, 0, 0, 4, 2, 0, 0, 0]) := by
    unfold field_PrintOwner.f
    rw [show (1 : Int) = ((1 : Nat) : Int) from rfl, show (2 : Int) = ((2 : Nat) : Int) from rfl, h1, Option.bind_some, h2, Option.bind_some]
    decide +kernel
  unfold portmanteaulaw14_awake.f
  rw [hp, Option.bind_some, toL]
  decide +kernel
end Go.Proofs.Ytloojhhjljneeaa.Walk
