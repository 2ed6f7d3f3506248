/- strings.LastIndex: the library's contract, laid at this program's own numbers. Printed by genlastindex.py. -/
import Derived.Test.YtdooampgkiodjaaProg
import Derived.Shelf.Strings.LastIndexAll
import Derived.Test.YtdooampgkiodjaaWMore
namespace Go.Proofs.Ytdooampgkiodjaa.Li
set_option linter.unusedVariables false
set_option linter.unusedSimpArgs false
open Go Go.RowKit Go.Shelf Go.Proofs
def hereR : Ren := ⟨fun n => if n = 148 then 12 else if n = 222 then 31 else if n = 223 then 32 else if n = 269 then 48 else n, fun n => if n = 3 then 3 else if n = 4 then 4 else if n = 5 then 5 else if n = 9 then 9 else if n = 46 then 38 else if n = 51 then 62 else if n = 146 then 87 else n, fun n => n⟩
theorem lays148 : Lays.n148 Try.prog hereR where
  mixed := by kernel_rfl
  f148 := (show Try.prog.funcs[12]? = some (Body.n148 hereR) from Try.func12.trans (congrArg some (by kernel_rfl)))
  f222 := (show Try.prog.funcs[31]? = some (Body.n222 hereR) from Try.func31.trans (congrArg some (by kernel_rfl)))
  f223 := (show Try.prog.funcs[32]? = some (Body.n223 hereR) from Try.func32.trans (congrArg some (by kernel_rfl)))
  f269 := (show Try.prog.funcs[48]? = some (Body.n269 hereR) from Try.func48.trans (congrArg some (by kernel_rfl)))
  t3 := Try.underlying3
  a3 := Try.isAgg3
  z3 := Try.sizeOf3
  v3 := Try.zeroValue3
  t4 := Try.underlying4
  a4 := Try.isAgg4
  z4 := Try.sizeOf4
  v4 := Try.zeroValue4
  t5 := Try.underlying5
  a5 := Try.isAgg5
  z5 := Try.sizeOf5
  v5 := Try.zeroValue5
  t9 := Try.underlying9
  a9 := Try.isAgg9
  z9 := Try.sizeOf9
  v9 := Try.zeroValue9
  t46 := Try.underlying38
  a46 := Try.isAgg38
  z46 := Try.sizeOf38
  v46 := Try.zeroValue38
  t51 := Try.underlying62
  a51 := Try.isAgg62
  z51 := Try.sizeOf62
  v51 := Try.zeroValue62
  t146 := Try.underlying87
  a146 := Try.isAgg87
  z146 := Try.sizeOf87
  v146 := Try.zeroValue87
end Go.Proofs.Ytdooampgkiodjaa.Li
namespace Go.Proofs.Ytdooampgkiodjaa.P
open Go Go.RowKit Go.Shelf Go.Proofs Go.Proofs.Ytdooampgkiodjaa.Li
/-- The last place. -/
def strings_LastIndex.f (s : ByteArray) (b : ByteArray) : Option Int := if s.size ≤ 1000000000000 then some (Lib.lastIndex s.data.toList b.data.toList) else none
theorem strings_LastIndex.calls (a0 : ByteArray) (a1 : ByteArray) (r : Int) (w : World) (h : strings_LastIndex.f a0 a1 = some r) :
    Calls Try.prog 12 #[.string a0, .string a1] w fun e w' => e = .returned (.int .i64 r) ∧ Below w.heap.size w w' := by
  unfold strings_LastIndex.f at h
  split at h
  case isFalse => cases h
  case isTrue hb =>
  obtain rfl := Option.some.inj h
  refine (Any.strings_LastIndex lays148 a0 a1 (by omega) w).mono ?_
  rintro e w' ⟨he, rfl⟩
  exact ⟨he, Below.refl _ _⟩
end Go.Proofs.Ytdooampgkiodjaa.P
