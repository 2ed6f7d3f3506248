/- strings.Repeat: the library's contract, laid at this program's own numbers. Printed by genrepeat.py. -/
import Derived.Test.YtdooampgkiodjaaProg
import Derived.Shelf.Strings.Repeat
import Derived.Test.YtdooampgkiodjaaWMore
namespace Go.Proofs.Ytdooampgkiodjaa.Sb
set_option linter.unusedVariables false
set_option linter.unusedSimpArgs false
open Go Go.RowKit Go.Shelf Go.Proofs
def hereR : Ren := ⟨fun n => if n = 99 then 34 else if n = 105 then 13 else if n = 165 then 35 else if n = 166 then 25 else if n = 169 then 29 else if n = 170 then 36 else if n = 206 then 51 else if n = 212 then 33 else if n = 240 then 46 else if n = 241 then 52 else if n = 263 then 49 else if n = 264 then 50 else if n = 276 then 55 else if n = 277 then 56 else n, fun n => if n = 0 then 0 else if n = 3 then 3 else if n = 4 then 4 else if n = 5 then 5 else if n = 9 then 9 else if n = 20 then 20 else if n = 37 then 37 else if n = 46 then 38 else if n = 51 then 62 else if n = 53 then 23 else if n = 70 then 59 else if n = 72 then 61 else if n = 75 then 64 else if n = 76 then 65 else if n = 109 then 72 else if n = 127 then 86 else if n = 146 then 87 else if n = 148 then 90 else if n = 164 then 94 else if n = 80 then 70 else n, fun n => n⟩
theorem lays105 : Lays.n105 Try.prog hereR where
  mixed := by kernel_rfl
  f99 := (show Try.prog.funcs[34]? = some (Body.n99 hereR) from Try.func34.trans (congrArg some (by kernel_rfl)))
  f105 := (show Try.prog.funcs[13]? = some (Body.n105 hereR) from Try.func13.trans (congrArg some (by kernel_rfl)))
  f165 := (show Try.prog.funcs[35]? = some (Body.n165 hereR) from Try.func35.trans (congrArg some (by kernel_rfl)))
  f166 := (show Try.prog.funcs[25]? = some (Body.n166 hereR) from Try.func25.trans (congrArg some (by kernel_rfl)))
  f169 := (show Try.prog.funcs[29]? = some (Body.n169 hereR) from Try.func29.trans (congrArg some (by kernel_rfl)))
  f170 := (show Try.prog.funcs[36]? = some (Body.n170 hereR) from Try.func36.trans (congrArg some (by kernel_rfl)))
  f206 := (show Try.prog.funcs[51]? = some (Body.n206 hereR) from Try.func51.trans (congrArg some (by kernel_rfl)))
  f212 := (show Try.prog.funcs[33]? = some (Body.n212 hereR) from Try.func33.trans (congrArg some (by kernel_rfl)))
  f240 := (show Try.prog.funcs[46]? = some (Body.n240 hereR) from Try.func46.trans (congrArg some (by kernel_rfl)))
  f241 := (show Try.prog.funcs[52]? = some (Body.n241 hereR) from Try.func52.trans (congrArg some (by kernel_rfl)))
  f263 := (show Try.prog.funcs[49]? = some (Body.n263 hereR) from Try.func49.trans (congrArg some (by kernel_rfl)))
  f264 := (show Try.prog.funcs[50]? = some (Body.n264 hereR) from Try.func50.trans (congrArg some (by kernel_rfl)))
  f276 := (show Try.prog.funcs[55]? = some (Body.n276 hereR) from Try.func55.trans (congrArg some (by kernel_rfl)))
  f277 := (show Try.prog.funcs[56]? = some (Body.n277 hereR) from Try.func56.trans (congrArg some (by kernel_rfl)))
  t0 := Try.underlying0
  a0 := Try.isAgg0
  z0 := Try.sizeOf0
  v0 := Try.zeroValue0
  t3 := Try.underlying3
  a3 := Try.isAgg3
  z3 := Try.sizeOf3
  v3 := Try.zeroValue3
  t4 := Try.underlying4
  a4 := Try.isAgg4
  z4 := Try.sizeOf4
  v4 := Try.zeroValue4
  t5 := Try.underlying5
  a5 := Try.isAgg5
  z5 := Try.sizeOf5
  v5 := Try.zeroValue5
  t9 := Try.underlying9
  a9 := Try.isAgg9
  z9 := Try.sizeOf9
  v9 := Try.zeroValue9
  t20 := Try.underlying20
  a20 := Try.isAgg20
  z20 := Try.sizeOf20
  v20 := Try.zeroValue20
  t37 := Try.underlying37
  a37 := Try.isAgg37
  z37 := Try.sizeOf37
  v37 := Try.zeroValue37
  t46 := Try.underlying38
  a46 := Try.isAgg38
  z46 := Try.sizeOf38
  v46 := Try.zeroValue38
  t51 := Try.underlying62
  a51 := Try.isAgg62
  z51 := Try.sizeOf62
  v51 := Try.zeroValue62
  t53 := Try.underlying23
  a53 := Try.isAgg23
  z53 := Try.sizeOf23
  v53 := Try.zeroValue23
  t70 := Try.underlying59
  a70 := Try.isAgg59
  z70 := Try.sizeOf59
  v70 := Try.zeroValue59
  t72 := Try.underlying61
  a72 := Try.isAgg61
  z72 := Try.sizeOf61
  v72 := Try.zeroValue61
  t75 := Try.underlying64
  a75 := Try.isAgg64
  z75 := Try.sizeOf64
  v75 := Try.zeroValue64
  t76 := Try.underlying65
  a76 := Try.isAgg65
  z76 := Try.sizeOf65
  v76 := Try.zeroValue65
  t109 := Try.underlying72
  a109 := Try.isAgg72
  z109 := Try.sizeOf72
  v109 := Try.zeroValue72
  t127 := Try.underlying86
  a127 := Try.isAgg86
  z127 := Try.sizeOf86
  v127 := Try.zeroValue86
  t146 := Try.underlying87
  a146 := Try.isAgg87
  z146 := Try.sizeOf87
  v146 := Try.zeroValue87
  t148 := Try.underlying90
  a148 := Try.isAgg90
  z148 := Try.sizeOf90
  v148 := Try.zeroValue90
  t164 := Try.underlying94
  a164 := Try.isAgg94
  z164 := Try.sizeOf94
  v164 := Try.zeroValue94
theorem extraR : Builder.Extra Try.prog hereR where
  sizeBuilder := by kernel_rfl
  liesBuilder := by kernel_rfl
  t5 := Try.underlying5
  a5 := Try.isAgg5
  z5 := Try.sizeOf5
  v5 := Try.zeroValue5
  infoByte := by kernel_rfl
  cellsByte := by kernel_rfl
  sizeByte := by kernel_rfl
  neB5 := by decide
end Go.Proofs.Ytdooampgkiodjaa.Sb
namespace Go.Proofs.Ytdooampgkiodjaa.P
open Go Go.RowKit Go.Shelf Go.Proofs Go.Proofs.Ytdooampgkiodjaa.Sb
/-- So many times the same. -/
def strings_Repeat.f (s : ByteArray) (n : Int) : Option ByteArray := if 0 ≤ n ∧ s.size * n.toNat ≤ 140737488355328 ∧ n ≤ 9223372036854775807 then some ⟨(Lib.repeatL s.data.toList n.toNat).toArray⟩ else none
theorem strings_Repeat.calls (a0 : ByteArray) (a1 : Int) (r : ByteArray) (w : World) (h : strings_Repeat.f a0 a1 = some r) :
    Calls Try.prog 13 #[.string a0, .int .i64 a1] w fun e w' => e = .returned (.string r) ∧ Below w.heap.size w w' := by
  unfold strings_Repeat.f at h
  split at h
  case isFalse => cases h
  case isTrue hb =>
  obtain ⟨h0, h1, h2⟩ := hb
  obtain ⟨c, rfl⟩ : ∃ c : Nat, a1 = (c : Int) := ⟨a1.toNat, by omega⟩
  obtain rfl := Option.some.inj h
  rw [Int.toNat_natCast] at h1 ⊢
  exact Any.strings_Repeat lays105 extraR a0 c w (by omega) h1
end Go.Proofs.Ytdooampgkiodjaa.P
