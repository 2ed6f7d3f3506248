/- The lowest so many bytes of a number, as a string: plain Lean. -/
import Derived.Test.YtdlcihbfdbdbbaaBytes
import Derived.Test.YtdlcihbfdbdbbaaWMore
namespace Go.Proofs.Ytdlcihbfdbdbbaa.Num
set_option linter.unusedVariables false
set_option linter.unusedSimpArgs false
open Go Go.RowKit Go.Proofs.Ytdlcihbfdbdbbaa.B Go.Proofs.YtdlcihbfdbdbbaaW.PrintWords Go.Proofs.YtdlcihbfdbdbbaaW.PrintLast Go.Proofs.YtdlcihbfdbdbbaaW.PrintMore

/-- The lowest so many bytes, as both texts have them. -/
def ofI (n : Nat) (c : Int) : List UInt8 := ofN (min c.toNat 64) n
def strN (l : List UInt8) : ByteArray := ⟨l.toArray⟩
theorem strN_eq (xs : List Int) (l : List UInt8) (h : xs = l.map fun b => (b.toNat : Int)) : strOfNums xs = strN l := by
  subst h
  simp [strOfNums, strN, List.map_map, Function.comp_def]

end Go.Proofs.Ytdlcihbfdbdbbaa.Num
