import Derived.Test.YtdooampgkiodjaaProg
import Derived.Below
import Derived.Deep.Draws
import Derived.Deep.AppendLies
import Derived.Maps.AppendAt
import Derived.OwnWalk
import Derived.Laws.BytesArg
import Derived.Laws.MakeOwn
import Derived.Laws.OwnMore
import Derived.Deep.OwnRows
import Derived.Tactics
import Derived.Lib.ConvBytes
import Derived.Laws.Slices
import Derived.WalkKit
import Derived.KernelRfl
import Derived.RowKit3
import Derived.Deep.LoopGhost
import Derived.Deep.QuietTactic
import Derived.BigQuiet
import Derived.WideLaws
import Derived.Deep.DeepCutAuto
import Derived.Deep.CutBlock
import Derived.Deep.RegionHeld3
import Derived.Laws.Rows
import Derived.Lib.AppendStr
import Derived.ArgAppend
import Derived.Laws.IdiomCopy
import Derived.OrdersHeld
import Derived.Laws.BitsLemmas
import Derived.RowKit
import Derived.Test.YtdooampgkiodjaaWWords
import Derived.Test.YtdooampgkiodjaaWLast
import Derived.Test.YtdooampgkiodjaaWTab
import Derived.Test.YtdooampgkiodjaaWFour
import Derived.Test.YtdooampgkiodjaaWQPut
import Derived.Test.YtdooampgkiodjaaWApart
import Derived.Test.YtdooampgkiodjaaWArr
import Derived.Test.YtdooampgkiodjaaWZeros
import Derived.Test.YtdooampgkiodjaaWFoot
import Derived.Test.YtdooampgkiodjaaWKept
import Derived.Test.YtdooampgkiodjaaWShare
import Derived.Test.YtdooampgkiodjaaWN
import Derived.Test.YtdooampgkiodjaaWFootNe
import Derived.Test.YtdooampgkiodjaaWAt
import Derived.Test.YtdooampgkiodjaaWEqStruct
import Derived.Test.YtdooampgkiodjaaWRepsOne
import Derived.Test.YtdooampgkiodjaaWInv
import Derived.Test.YtdooampgkiodjaaWInvWords
import Derived.Test.YtdooampgkiodjaaWGuard
import Derived.Test.YtdooampgkiodjaaWNEv
import Derived.Test.YtdooampgkiodjaaWMore
namespace Go.Proofs.Ytdooampgkiodjaa.P
open Go.RowKit Go.Proofs.YtdooampgkiodjaaW.PrintWords Go.Proofs.YtdooampgkiodjaaW.PrintLast Go.Proofs.YtdooampgkiodjaaW.PrintMore
attribute [local go_sem] max2_int min2_int max_two min_two max_three min_three max_four min_four
set_option linter.unusedVariables false
set_option linter.unusedSimpArgs false
def errW : Option Int → Value
  | none => .nilIface
  | some c => .iface 0 (.int .i64 c)
theorem errW_none : errW none = .nilIface := rfl
theorem errW_some (c : Int) : errW (some c) = .iface 0 (.int .i64 c) := rfl
theorem info5 : (Try.prog.info? 5).map (fun i => (i.zero, i.size, i.bytes)) = some (some (.int .u8 0), 1, 1) := by kernel_rfl
theorem info23 : (Try.prog.info? 23).map (fun i => (i.zero, i.size, i.bytes)) = some (some (.int .u64 0), 1, 8) := by kernel_rfl
structure S93 where
  f0 : ByteArray
  f1 : Int
  f2 : Int
structure S47 where
  f0 : Int
  f1 : Int
  f2 : Int
  f3 : Int
  f4 : Int
  f5 : Int
  f6 : Int
  f7 : ByteArray
structure S25 where
  f0 : Int
  f1 : Int
  f2 : Int
  f3 : Int
  f4 : ByteArray
  f5 : Bool
structure S29 where
  f0 : Int
  f1 : Int
  f2 : Int
  f3 : Int
  f4 : ByteArray
  f5 : Bool
end Go.Proofs.Ytdooampgkiodjaa.P
