/- awake of the seventh chapter, in the printer's form. -/
import Derived.Test.YtgpmhdefpbmhjaaAwake
namespace Go.Proofs.Ytgpmhdefpbmhjaa.P
open Go Go.RowKit
def portmanteaulaw07_awake.f : Option Bool := some true
theorem portmanteaulaw07_awake.calls (r : Bool) (w : World) (h : portmanteaulaw07_awake.f = some r) :
    Calls Try.prog 9 #[] w fun e w' => e = .returned (.bool r) ∧ Below w.heap.size w w' := by
  obtain rfl := Option.some.inj h
  exact Walk.awake_calls w
end Go.Proofs.Ytgpmhdefpbmhjaa.P
