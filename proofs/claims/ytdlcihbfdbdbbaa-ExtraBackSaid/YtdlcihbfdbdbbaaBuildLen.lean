/- strings.Builder's Len, laid at this program's own numbers. Printed by wip/lib/genbuild.py. -/
import Derived.Test.YtdlcihbfdbdbbaaBuildK
import Derived.Shelf.Strings.BuilderF
namespace Go.Proofs.Ytdlcihbfdbdbbaa.Sb
set_option linter.unusedVariables false
set_option linter.unusedSimpArgs false
open Go Go.RowKit Go.Shelf Go.Proofs
def hereL : Ren := ⟨fun n => if n = 170 then 29 else here.f n, here.t, fun n => n⟩
theorem lays170 : Lays.n170 Try.prog hereL where
  mixed := by kernel_rfl
  f170 := (show Try.prog.funcs[29]? = some (Body.n170 hereL) from Try.func29.trans (congrArg some (by kernel_rfl)))
  t0 := Try.underlying0
  a0 := Try.isAgg0
  z0 := Try.sizeOf0
  v0 := Try.zeroValue0
  t3 := Try.underlying3
  a3 := Try.isAgg3
  z3 := Try.sizeOf3
  v3 := Try.zeroValue3
  t37 := Try.underlying58
  a37 := Try.isAgg58
  z37 := Try.sizeOf58
  v37 := Try.zeroValue58
  t70 := Try.underlying57
  a70 := Try.isAgg57
  z70 := Try.sizeOf57
  v70 := Try.zeroValue57
  t72 := Try.underlying60
  a72 := Try.isAgg60
  z72 := Try.sizeOf60
  v72 := Try.zeroValue60
theorem len_calls (B b : Nat) (l : List UInt8) (w : World) (h : Has B b l w) :
    Calls Try.prog 29 #[.pointer (some ⟨b, 0, none⟩)] w fun e w' => e = .returned (.int .i64 l.length) ∧ w' = w := by
  have := Any.Builder_Len_f lays170 B b (Lib.byteCells l) w h
  rw [Lib.byteCells_length] at this
  exact this
end Go.Proofs.Ytdlcihbfdbdbbaa.Sb
