/- strings.Builder: the library's contracts (WriteString, String), laid at this program's own numbers. Printed by wip/lib/genbuild.py. -/
import Derived.Test.YtdlcihbfdbdbbaaProg
import Derived.Shelf.Strings.Builder1
import Derived.Test.YtdlcihbfdbdbbaaWMore
namespace Go.Proofs.Ytdlcihbfdbdbbaa.Sb
set_option linter.unusedVariables false
set_option linter.unusedSimpArgs false
open Go Go.RowKit Go.Shelf Go.Proofs

/-- The shelf's numbers, as they are here. -/
def here : Ren := ⟨fun n => if n = 166 then 27 else if n = 169 then 30 else if n = 240 then 37 else if n = 276 then 43 else n, fun n => if n = 0 then 0 else if n = 3 then 3 else if n = 4 then 4 else if n = 5 then 5 else if n = 9 then 9 else if n = 20 then 20 else if n = 37 then 58 else if n = 70 then 57 else if n = 72 then 60 else if n = 75 then 62 else if n = 164 then 81 else if n = 127 then 75 else if n = 80 then 66 else n, fun n => n⟩
theorem lays166 : Lays.n166 Try.prog here where
  mixed := by kernel_rfl
  f166 := (show Try.prog.funcs[27]? = some (Body.n166 here) from Try.func27.trans (congrArg some (by kernel_rfl)))
  f240 := (show Try.prog.funcs[37]? = some (Body.n240 here) from Try.func37.trans (congrArg some (by kernel_rfl)))
  f276 := (show Try.prog.funcs[43]? = some (Body.n276 here) from Try.func43.trans (congrArg some (by kernel_rfl)))
  t0 := Try.underlying0
  a0 := Try.isAgg0
  z0 := Try.sizeOf0
  v0 := Try.zeroValue0
  t3 := Try.underlying3
  a3 := Try.isAgg3
  z3 := Try.sizeOf3
  v3 := Try.zeroValue3
  t4 := Try.underlying4
  a4 := Try.isAgg4
  z4 := Try.sizeOf4
  v4 := Try.zeroValue4
  t9 := Try.underlying9
  a9 := Try.isAgg9
  z9 := Try.sizeOf9
  v9 := Try.zeroValue9
  t20 := Try.underlying20
  a20 := Try.isAgg20
  z20 := Try.sizeOf20
  v20 := Try.zeroValue20
  t37 := Try.underlying58
  a37 := Try.isAgg58
  z37 := Try.sizeOf58
  v37 := Try.zeroValue58
  t70 := Try.underlying57
  a70 := Try.isAgg57
  z70 := Try.sizeOf57
  v70 := Try.zeroValue57
  t72 := Try.underlying60
  a72 := Try.isAgg60
  z72 := Try.sizeOf60
  v72 := Try.zeroValue60
  t75 := Try.underlying62
  a75 := Try.isAgg62
  z75 := Try.sizeOf62
  v75 := Try.zeroValue62
  t164 := Try.underlying81
  a164 := Try.isAgg81
  z164 := Try.sizeOf81
  v164 := Try.zeroValue81
theorem lays169 : Lays.n169 Try.prog here where
  mixed := by kernel_rfl
  f169 := (show Try.prog.funcs[30]? = some (Body.n169 here) from Try.func30.trans (congrArg some (by kernel_rfl)))
  t0 := Try.underlying0
  a0 := Try.isAgg0
  z0 := Try.sizeOf0
  v0 := Try.zeroValue0
  t3 := Try.underlying3
  a3 := Try.isAgg3
  z3 := Try.sizeOf3
  v3 := Try.zeroValue3
  t9 := Try.underlying9
  a9 := Try.isAgg9
  z9 := Try.sizeOf9
  v9 := Try.zeroValue9
  t37 := Try.underlying58
  a37 := Try.isAgg58
  z37 := Try.sizeOf58
  v37 := Try.zeroValue58
  t70 := Try.underlying57
  a70 := Try.isAgg57
  z70 := Try.sizeOf57
  v70 := Try.zeroValue57
  t72 := Try.underlying60
  a72 := Try.isAgg60
  z72 := Try.sizeOf60
  v72 := Try.zeroValue60
  t127 := Try.underlying75
  a127 := Try.isAgg75
  z127 := Try.sizeOf75
  v127 := Try.zeroValue75
theorem extra : Builder.Extra Try.prog here where
  sizeBuilder := by kernel_rfl
  liesBuilder := by kernel_rfl
  t5 := Try.underlying5
  a5 := Try.isAgg5
  z5 := Try.sizeOf5
  v5 := Try.zeroValue5
  infoByte := by kernel_rfl
  cellsByte := by kernel_rfl
  sizeByte := by kernel_rfl
  neB5 := by decide
theorem at_below {T e : TypeId} {B b : Nat} {p : Value} {bs : List Value} {W W' : World} (h : Lib.BuilderAt T e B b p bs W) (hb : Below W.heap.size W W') : Lib.BuilderAt T e B b p bs W' := by
  obtain ⟨hB, v, hv, hown, hne⟩ := h
  have hlt : b < W.heap.size := by
    rcases Nat.lt_or_ge b W.heap.size with h' | h'
    · exact h'
    · simp [Array.getElem?_eq_none h'] at hv
  exact ⟨hB, v, (hb.block b hlt).trans hv, hown.kept (row := none) ⟨hb.os, hb.tape, hb.output, hb.size, fun k hk _ => hb.block k hk⟩ (Classical.em _), hne⟩
theorem is_below {T e : TypeId} {B b : Nat} {bs : List Value} {W W' : World} (h : Lib.IsBuilder T e B b bs W) (hb : Below W.heap.size W W') : Lib.IsBuilder T e B b bs W' :=
  h.elim (fun x => .inl (at_below x hb)) (fun x => .inr (at_below x hb))
/-- WriteString, String, at this program's numbers. -/
theorem write_calls (B b : Nat) (l : List UInt8) (s : ByteArray) (w : World) (h : Lib.IsBuilder 60 5 B b (Lib.byteCells l) w) (hlen : l.length + s.size ≤ 140737488355328) (hBw : B ≤ w.heap.size) :
    Calls Try.prog 27 #[.pointer (some ⟨b, 0, none⟩), .string s] w fun e w' => e = .returned (.tuple #[.int .i64 s.size, .nilIface]) ∧ (Lib.IsBuilder 60 5 B b (Lib.byteCells (l ++ s.data.toList)) w' ∧ Below B w w') :=
  (Any.Builder_WriteString lays166 extra B b _ s w h (by rw [Lib.byteCells_length]; exact hlen) hBw).mono fun e w' ⟨he, hat, hb⟩ => ⟨he, by
    have hq : Lib.byteCells l ++ Lib.strCells s = Lib.byteCells (l ++ s.data.toList) := by rw [Lib.strCells_eq]; simp [Lib.byteCells]
    rw [hq] at hat; exact .inr hat, hb⟩
theorem string_calls (B b : Nat) (l : List UInt8) (w : World) (h : Lib.IsBuilder 60 5 B b (Lib.byteCells l) w) (hBw : B ≤ w.heap.size) :
    Calls Try.prog 30 #[.pointer (some ⟨b, 0, none⟩)] w fun e w' => e = .returned (.string ⟨l.toArray⟩) ∧ Below B w w' :=
  Any.Builder_String_any lays169 extra B b l w h hBw
theorem fresh (w : World) : Lib.IsBuilder 60 5 w.heap.size w.heap.size (Lib.byteCells []) (w.alloc (.cells #[.pointer none, .slice none 0 0] 60)) := Lib.fresh_isBuilder 60 5 w
end Go.Proofs.Ytdlcihbfdbdbbaa.Sb
