import Derived.Test.YtnjfddmajiihjaaProg
import Derived.Below
import Derived.Deep.Draws
import Derived.Deep.AppendLies
import Derived.Maps.AppendAt
import Derived.OwnWalk
import Derived.Laws.BytesArg
import Derived.Laws.MakeOwn
import Derived.Laws.OwnMore
import Derived.Deep.OwnRows
import Derived.Tactics
import Derived.Lib.ConvBytes
import Derived.Laws.Slices
import Derived.WalkKit
import Derived.KernelRfl
import Derived.RowKit3
import Derived.Deep.LoopGhost
import Derived.Deep.QuietTactic
import Derived.BigQuiet
import Derived.WideLaws
import Derived.Deep.DeepCutAuto
import Derived.Deep.CutBlock
import Derived.Deep.RegionHeld3
import Derived.Laws.Rows
import Derived.Lib.AppendStr
import Derived.ArgAppend
import Derived.Laws.IdiomCopy
import Derived.OrdersHeld
import Derived.Laws.BitsLemmas
import Derived.RowKit
import Derived.Test.YtnjfddmajiihjaaMg1
import Derived.Test.YtnjfddmajiihjaaWWords
import Derived.Test.YtnjfddmajiihjaaWLast
import Derived.Test.YtnjfddmajiihjaaWTab
import Derived.Test.YtnjfddmajiihjaaWFour
import Derived.Test.YtnjfddmajiihjaaWQPut
import Derived.Test.YtnjfddmajiihjaaWApart
import Derived.Test.YtnjfddmajiihjaaWArr
import Derived.Test.YtnjfddmajiihjaaWZeros
import Derived.Test.YtnjfddmajiihjaaWFoot
import Derived.Test.YtnjfddmajiihjaaWKept
import Derived.Test.YtnjfddmajiihjaaWShare
import Derived.Test.YtnjfddmajiihjaaWN
import Derived.Test.YtnjfddmajiihjaaWFootNe
import Derived.Test.YtnjfddmajiihjaaWAt
import Derived.Test.YtnjfddmajiihjaaWEqStruct
import Derived.Test.YtnjfddmajiihjaaWRepsOne
import Derived.Test.YtnjfddmajiihjaaWInv
import Derived.Test.YtnjfddmajiihjaaWInvWords
import Derived.Test.YtnjfddmajiihjaaWGuard
import Derived.Test.YtnjfddmajiihjaaWNEv
import Derived.Test.YtnjfddmajiihjaaWMore
namespace Go.Proofs.Ytnjfddmajiihjaa.P
open Go.RowKit Go.Proofs.YtnjfddmajiihjaaW.PrintWords Go.Proofs.YtnjfddmajiihjaaW.PrintLast Go.Proofs.YtnjfddmajiihjaaW.PrintMore
attribute [local go_sem] max2_int min2_int max_two min_two max_three min_three max_four min_four
attribute [local go_sem] Go.Proofs.Ytnjfddmajiihjaa.Mx.max_five Go.Proofs.Ytnjfddmajiihjaa.Mx.max_six Go.Proofs.Ytnjfddmajiihjaa.Mx.max_seven
set_option linter.unusedVariables false
set_option linter.unusedSimpArgs false
def errW : Option Int → Value
  | none => .nilIface
  | some c => .iface 0 (.int .i64 c)
theorem errW_none : errW none = .nilIface := rfl
theorem errW_some (c : Int) : errW (some c) = .iface 0 (.int .i64 c) := rfl
theorem info5 : (Try.prog.info? 5).map (fun i => (i.zero, i.size, i.bytes)) = some (some (.int .u8 0), 1, 1) := by kernel_rfl
structure S25 where
  f0 : Int
  f1 : Int
  f2 : Int
  f3 : Int
  f4 : Int
  f5 : Int
  f6 : Int
  f7 : ByteArray
  f8 : ByteArray
def k25 : Kd S25 := Kd.iso (Kd.pair (Kd.int .u16) (Kd.pair (Kd.int .u16) (Kd.pair (Kd.int .u16) (Kd.pair (Kd.int .u32) (Kd.pair (Kd.int .u32) (Kd.pair (Kd.int .u32) (Kd.pair (Kd.int .u32) (Kd.pair Kd.string Kd.string)))))))) (fun x : S25 => (x.f0, x.f1, x.f2, x.f3, x.f4, x.f5, x.f6, x.f7, x.f8))
theorem k25_open {w : World} {x : S25} {cs : List Value} (h : k25.K w x cs) : cs = [.int .u16 x.f0, .int .u16 x.f1, .int .u16 x.f2, .int .u32 x.f3, .int .u32 x.f4, .int .u32 x.f5, .int .u32 x.f6, .string x.f7, .string x.f8] := by
  obtain ⟨_, _, rfl, rfl, ⟨_, _, rfl, rfl, ⟨_, _, rfl, rfl, ⟨_, _, rfl, rfl, ⟨_, _, rfl, rfl, ⟨_, _, rfl, rfl, ⟨_, _, rfl, rfl, ⟨_, _, rfl, rfl, rfl⟩⟩⟩⟩⟩⟩⟩⟩ := h
  exact rfl
structure S27 where
  f0 : Int
  f1 : Int
  f2 : Int
  f3 : Int
  f4 : Int
  f5 : Int
  f6 : Int
  f7 : Int
  f8 : Int
  f9 : Int
  f10 : Int
  f11 : Int
  f12 : ByteArray
  f13 : ByteArray
  f14 : ByteArray
def k27 : Kd S27 := Kd.iso (Kd.pair (Kd.int .u16) (Kd.pair (Kd.int .u16) (Kd.pair (Kd.int .u16) (Kd.pair (Kd.int .u16) (Kd.pair (Kd.int .u32) (Kd.pair (Kd.int .u32) (Kd.pair (Kd.int .u32) (Kd.pair (Kd.int .u32) (Kd.pair (Kd.int .u16) (Kd.pair (Kd.int .u16) (Kd.pair (Kd.int .u32) (Kd.pair (Kd.int .u32) (Kd.pair Kd.string (Kd.pair Kd.string Kd.string)))))))))))))) (fun x : S27 => (x.f0, x.f1, x.f2, x.f3, x.f4, x.f5, x.f6, x.f7, x.f8, x.f9, x.f10, x.f11, x.f12, x.f13, x.f14))
theorem k27_open {w : World} {x : S27} {cs : List Value} (h : k27.K w x cs) : cs = [.int .u16 x.f0, .int .u16 x.f1, .int .u16 x.f2, .int .u16 x.f3, .int .u32 x.f4, .int .u32 x.f5, .int .u32 x.f6, .int .u32 x.f7, .int .u16 x.f8, .int .u16 x.f9, .int .u32 x.f10, .int .u32 x.f11, .string x.f12, .string x.f13, .string x.f14] := by
  obtain ⟨_, _, rfl, rfl, ⟨_, _, rfl, rfl, ⟨_, _, rfl, rfl, ⟨_, _, rfl, rfl, ⟨_, _, rfl, rfl, ⟨_, _, rfl, rfl, ⟨_, _, rfl, rfl, ⟨_, _, rfl, rfl, ⟨_, _, rfl, rfl, ⟨_, _, rfl, rfl, ⟨_, _, rfl, rfl, ⟨_, _, rfl, rfl, ⟨_, _, rfl, rfl, ⟨_, _, rfl, rfl, rfl⟩⟩⟩⟩⟩⟩⟩⟩⟩⟩⟩⟩⟩⟩ := h
  exact rfl
structure S30 where
  f0 : Int
  f1 : Int
  f2 : Int
def k30 : Kd S30 := Kd.iso (Kd.pair (Kd.int .u32) (Kd.pair (Kd.int .u64) (Kd.int .u64))) (fun x : S30 => (x.f0, x.f1, x.f2))
theorem k30_open {w : World} {x : S30} {cs : List Value} (h : k30.K w x cs) : cs = [.int .u32 x.f0, .int .u64 x.f1, .int .u64 x.f2] := by
  obtain ⟨_, _, rfl, rfl, ⟨_, _, rfl, rfl, rfl⟩⟩ := h
  exact rfl
structure S91 where
  f0 : ByteArray
  f1 : Int
  f2 : Int
end Go.Proofs.Ytnjfddmajiihjaa.P
