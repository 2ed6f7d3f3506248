/- strings.Repeat: the library's contract, laid at this program's own numbers. Printed by genrepeat.py. -/
import Derived.Test.YtpolblaahifjiaaDoorProg
import Derived.Shelf.Strings.Repeat
import Derived.Test.YtpolblaahifjiaaDoorWMore
namespace Go.Proofs.YtpolblaahifjiaaDoor.Sb
set_option linter.unusedVariables false
set_option linter.unusedSimpArgs false
open Go Go.RowKit Go.Shelf Go.Proofs
def hereR : Ren := ⟨fun n => if n = 99 then 34 else if n = 105 then 30 else if n = 165 then 35 else if n = 166 then 36 else if n = 169 then 38 else if n = 170 then 37 else if n = 206 then 45 else if n = 212 then 33 else if n = 240 then 46 else if n = 241 then 47 else if n = 263 then 43 else if n = 264 then 44 else if n = 276 then 53 else if n = 277 then 54 else n, fun n => if n = 0 then 0 else if n = 3 then 3 else if n = 4 then 4 else if n = 5 then 5 else if n = 9 then 9 else if n = 20 then 20 else if n = 37 then 66 else if n = 46 then 56 else if n = 51 then 31 else if n = 53 then 57 else if n = 70 then 65 else if n = 72 then 68 else if n = 75 then 71 else if n = 76 then 72 else if n = 109 then 62 else if n = 127 then 86 else if n = 146 then 82 else if n = 148 then 84 else if n = 164 then 91 else if n = 80 then 75 else n, fun n => n⟩
theorem lays105 : Lays.n105 Tryd.prog hereR where
  mixed := by kernel_rfl
  f99 := (show Tryd.prog.funcs[34]? = some (Body.n99 hereR) from Tryd.func34.trans (congrArg some (by kernel_rfl)))
  f105 := (show Tryd.prog.funcs[30]? = some (Body.n105 hereR) from Tryd.func30.trans (congrArg some (by kernel_rfl)))
  f165 := (show Tryd.prog.funcs[35]? = some (Body.n165 hereR) from Tryd.func35.trans (congrArg some (by kernel_rfl)))
  f166 := (show Tryd.prog.funcs[36]? = some (Body.n166 hereR) from Tryd.func36.trans (congrArg some (by kernel_rfl)))
  f169 := (show Tryd.prog.funcs[38]? = some (Body.n169 hereR) from Tryd.func38.trans (congrArg some (by kernel_rfl)))
  f170 := (show Tryd.prog.funcs[37]? = some (Body.n170 hereR) from Tryd.func37.trans (congrArg some (by kernel_rfl)))
  f206 := (show Tryd.prog.funcs[45]? = some (Body.n206 hereR) from Tryd.func45.trans (congrArg some (by kernel_rfl)))
  f212 := (show Tryd.prog.funcs[33]? = some (Body.n212 hereR) from Tryd.func33.trans (congrArg some (by kernel_rfl)))
  f240 := (show Tryd.prog.funcs[46]? = some (Body.n240 hereR) from Tryd.func46.trans (congrArg some (by kernel_rfl)))
  f241 := (show Tryd.prog.funcs[47]? = some (Body.n241 hereR) from Tryd.func47.trans (congrArg some (by kernel_rfl)))
  f263 := (show Tryd.prog.funcs[43]? = some (Body.n263 hereR) from Tryd.func43.trans (congrArg some (by kernel_rfl)))
  f264 := (show Tryd.prog.funcs[44]? = some (Body.n264 hereR) from Tryd.func44.trans (congrArg some (by kernel_rfl)))
  f276 := (show Tryd.prog.funcs[53]? = some (Body.n276 hereR) from Tryd.func53.trans (congrArg some (by kernel_rfl)))
  f277 := (show Tryd.prog.funcs[54]? = some (Body.n277 hereR) from Tryd.func54.trans (congrArg some (by kernel_rfl)))
  t0 := Tryd.underlying0
  a0 := Tryd.isAgg0
  z0 := Tryd.sizeOf0
  v0 := Tryd.zeroValue0
  t3 := Tryd.underlying3
  a3 := Tryd.isAgg3
  z3 := Tryd.sizeOf3
  v3 := Tryd.zeroValue3
  t4 := Tryd.underlying4
  a4 := Tryd.isAgg4
  z4 := Tryd.sizeOf4
  v4 := Tryd.zeroValue4
  t5 := Tryd.underlying5
  a5 := Tryd.isAgg5
  z5 := Tryd.sizeOf5
  v5 := Tryd.zeroValue5
  t9 := Tryd.underlying9
  a9 := Tryd.isAgg9
  z9 := Tryd.sizeOf9
  v9 := Tryd.zeroValue9
  t20 := Tryd.underlying20
  a20 := Tryd.isAgg20
  z20 := Tryd.sizeOf20
  v20 := Tryd.zeroValue20
  t37 := Tryd.underlying66
  a37 := Tryd.isAgg66
  z37 := Tryd.sizeOf66
  v37 := Tryd.zeroValue66
  t46 := Tryd.underlying56
  a46 := Tryd.isAgg56
  z46 := Tryd.sizeOf56
  v46 := Tryd.zeroValue56
  t51 := Tryd.underlying31
  a51 := Tryd.isAgg31
  z51 := Tryd.sizeOf31
  v51 := Tryd.zeroValue31
  t53 := Tryd.underlying57
  a53 := Tryd.isAgg57
  z53 := Tryd.sizeOf57
  v53 := Tryd.zeroValue57
  t70 := Tryd.underlying65
  a70 := Tryd.isAgg65
  z70 := Tryd.sizeOf65
  v70 := Tryd.zeroValue65
  t72 := Tryd.underlying68
  a72 := Tryd.isAgg68
  z72 := Tryd.sizeOf68
  v72 := Tryd.zeroValue68
  t75 := Tryd.underlying71
  a75 := Tryd.isAgg71
  z75 := Tryd.sizeOf71
  v75 := Tryd.zeroValue71
  t76 := Tryd.underlying72
  a76 := Tryd.isAgg72
  z76 := Tryd.sizeOf72
  v76 := Tryd.zeroValue72
  t109 := Tryd.underlying62
  a109 := Tryd.isAgg62
  z109 := Tryd.sizeOf62
  v109 := Tryd.zeroValue62
  t127 := Tryd.underlying86
  a127 := Tryd.isAgg86
  z127 := Tryd.sizeOf86
  v127 := Tryd.zeroValue86
  t146 := Tryd.underlying82
  a146 := Tryd.isAgg82
  z146 := Tryd.sizeOf82
  v146 := Tryd.zeroValue82
  t148 := Tryd.underlying84
  a148 := Tryd.isAgg84
  z148 := Tryd.sizeOf84
  v148 := Tryd.zeroValue84
  t164 := Tryd.underlying91
  a164 := Tryd.isAgg91
  z164 := Tryd.sizeOf91
  v164 := Tryd.zeroValue91
theorem extraR : Builder.Extra Tryd.prog hereR where
  sizeBuilder := by kernel_rfl
  liesBuilder := by kernel_rfl
  t5 := Tryd.underlying5
  a5 := Tryd.isAgg5
  z5 := Tryd.sizeOf5
  v5 := Tryd.zeroValue5
  infoByte := by kernel_rfl
  cellsByte := by kernel_rfl
  sizeByte := by kernel_rfl
  neB5 := by decide
end Go.Proofs.YtpolblaahifjiaaDoor.Sb
namespace Go.Proofs.YtpolblaahifjiaaDoor.P
open Go Go.RowKit Go.Shelf Go.Proofs Go.Proofs.YtpolblaahifjiaaDoor.Sb
/-- So many times the same. -/
def strings_Repeat.f (s : ByteArray) (n : Int) : Option ByteArray := if 0 ≤ n ∧ s.size * n.toNat ≤ 140737488355328 ∧ n ≤ 9223372036854775807 then some ⟨(Lib.repeatL s.data.toList n.toNat).toArray⟩ else none
theorem strings_Repeat.calls (a0 : ByteArray) (a1 : Int) (r : ByteArray) (w : World) (h : strings_Repeat.f a0 a1 = some r) :
    Calls Tryd.prog 30 #[.string a0, .int .i64 a1] w fun e w' => e = .returned (.string r) ∧ Below w.heap.size w w' := by
  unfold strings_Repeat.f at h
  split at h
  case isFalse => cases h
  case isTrue hb =>
  obtain ⟨h0, h1, h2⟩ := hb
  obtain ⟨c, rfl⟩ : ∃ c : Nat, a1 = (c : Int) := ⟨a1.toNat, by omega⟩
  obtain rfl := Option.some.inj h
  rw [Int.toNat_natCast] at h1 ⊢
  exact Any.strings_Repeat lays105 extraR a0 c w (by omega) h1
end Go.Proofs.YtpolblaahifjiaaDoor.P
