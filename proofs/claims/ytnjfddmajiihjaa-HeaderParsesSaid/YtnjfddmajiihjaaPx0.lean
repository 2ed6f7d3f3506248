import Derived.Test.YtnjfddmajiihjaaProg
import Derived.Below
import Derived.Deep.Draws
import Derived.Deep.AppendLies
import Derived.Maps.AppendAt
import Derived.OwnWalk
import Derived.Laws.BytesArg
import Derived.Laws.MakeOwn
import Derived.Laws.OwnMore
import Derived.Deep.OwnRows
import Derived.Tactics
import Derived.Lib.ConvBytes
import Derived.Laws.Slices
import Derived.WalkKit
import Derived.KernelRfl
import Derived.RowKit3
import Derived.Deep.LoopGhost
import Derived.Deep.QuietTactic
import Derived.BigQuiet
import Derived.WideLaws
import Derived.Deep.DeepCutAuto
import Derived.Deep.CutBlock
import Derived.Deep.RegionHeld3
import Derived.Laws.Rows
import Derived.Lib.AppendStr
import Derived.ArgAppend
import Derived.Laws.IdiomCopy
import Derived.OrdersHeld
import Derived.Laws.BitsLemmas
import Derived.RowKit
import Derived.Test.YtnjfddmajiihjaaMg1
import Derived.Test.YtnjfddmajiihjaaWWords
import Derived.Test.YtnjfddmajiihjaaWLast
import Derived.Test.YtnjfddmajiihjaaWTab
import Derived.Test.YtnjfddmajiihjaaWFour
import Derived.Test.YtnjfddmajiihjaaWQPut
import Derived.Test.YtnjfddmajiihjaaWApart
import Derived.Test.YtnjfddmajiihjaaWArr
import Derived.Test.YtnjfddmajiihjaaWZeros
import Derived.Test.YtnjfddmajiihjaaWFoot
import Derived.Test.YtnjfddmajiihjaaWKept
import Derived.Test.YtnjfddmajiihjaaWShare
import Derived.Test.YtnjfddmajiihjaaWN
import Derived.Test.YtnjfddmajiihjaaWFootNe
import Derived.Test.YtnjfddmajiihjaaWAt
import Derived.Test.YtnjfddmajiihjaaWEqStruct
import Derived.Test.YtnjfddmajiihjaaWRepsOne
import Derived.Test.YtnjfddmajiihjaaWInv
import Derived.Test.YtnjfddmajiihjaaWInvWords
import Derived.Test.YtnjfddmajiihjaaWGuard
import Derived.Test.YtnjfddmajiihjaaWNEv
import Derived.Test.YtnjfddmajiihjaaWMore
namespace Go.Proofs.Ytnjfddmajiihjaa.P
open Go.RowKit Go.Proofs.YtnjfddmajiihjaaW.PrintWords Go.Proofs.YtnjfddmajiihjaaW.PrintLast Go.Proofs.YtnjfddmajiihjaaW.PrintMore
attribute [local go_sem] max2_int min2_int max_two min_two max_three min_three max_four min_four
attribute [local go_sem] Go.Proofs.Ytnjfddmajiihjaa.Mx.max_five Go.Proofs.Ytnjfddmajiihjaa.Mx.max_six Go.Proofs.Ytnjfddmajiihjaa.Mx.max_seven
set_option linter.unusedVariables false
set_option linter.unusedSimpArgs false
def errW : Option Int → Value
  | none => .nilIface
  | some c => .iface 0 (.int .i64 c)
theorem errW_none : errW none = .nilIface := rfl
theorem errW_some (c : Int) : errW (some c) = .iface 0 (.int .i64 c) := rfl
theorem info5 : (Try.prog.info? 5).map (fun i => (i.zero, i.size, i.bytes)) = some (some (.int .u8 0), 1, 1) := by kernel_rfl
theorem info9 : (Try.prog.info? 9).map (fun i => (i.zero, i.size, i.bytes)) = some (some (.string ⟨#[]⟩), 1, 16) := by kernel_rfl
theorem info28 : (Try.prog.info? 28).map (fun i => (i.zero, i.size, i.bytes)) = some (some (.int .u64 0), 1, 8) := by kernel_rfl
structure S25 where
  f0 : Int
  f1 : Int
  f2 : Int
  f3 : Int
  f4 : Int
  f5 : Int
  f6 : Int
  f7 : ByteArray
  f8 : ByteArray
structure S27 where
  f0 : Int
  f1 : Int
  f2 : Int
  f3 : Int
  f4 : Int
  f5 : Int
  f6 : Int
  f7 : Int
  f8 : Int
  f9 : Int
  f10 : Int
  f11 : Int
  f12 : ByteArray
  f13 : ByteArray
  f14 : ByteArray
structure S30 where
  f0 : Int
  f1 : Int
  f2 : Int
structure S91 where
  f0 : ByteArray
  f1 : Int
  f2 : Int
end Go.Proofs.Ytnjfddmajiihjaa.P
