/- strings.Builder: the library's contracts with the frame above the builder. Printed by wip/lib/genbuild.py. -/
import Derived.Test.YtdlcihbfdbdbbaaBuild
import Derived.Shelf.Strings.BuilderK
namespace Go.Proofs.Ytdlcihbfdbdbbaa.Sb
set_option linter.unusedVariables false
set_option linter.unusedSimpArgs false
open Go Go.RowKit Go.Shelf Go.Proofs Go.Proofs.YtdlcihbfdbdbbaaW.PrintWords Go.Proofs.YtdlcihbfdbdbbaaW.PrintLast Go.Proofs.YtdlcihbfdbdbbaaW.PrintMore
/-- A builder of the call's own that holds these bytes. -/
def Has (B b : Nat) (l : List UInt8) (w : World) : Prop := Lib.IsBuilderF 60 5 B b (Lib.byteCells l) w
/-- Every block but the builder's, and but rows of bytes, is as it was. -/
def Oth (b : Nat) (w w' : World) : Prop := Lib.OthersKept 5 (some b) w w'
theorem has_fresh (w : World) : Has w.heap.size w.heap.size [] (w.alloc (.cells #[.pointer none, .slice none 0 0] 60)) := Lib.IsBuilderF.of (fresh w)
theorem hasAt_below {T e : TypeId} {B b : Nat} {p : Value} {bs : List Value} {W W' : World} (h : Lib.BuilderAtF T e B b p bs W) (hb : Below W.heap.size W W') : Lib.BuilderAtF T e B b p bs W' := by
  have hlt := h.lt
  obtain ⟨hB, v, hv, hown, hne⟩ := h
  exact ⟨hB, v, (hb.block b hlt).trans hv, hown.kept (row := none) ⟨hb.os, hb.tape, hb.output, hb.size, fun k hk _ => hb.block k hk⟩ (Classical.em _), hne⟩
theorem has_below {B b : Nat} {l : List UInt8} {W W' : World} (h : Has B b l W) (hb : Below W.heap.size W W') : Has B b l W' :=
  h.elim (fun x => .inl (hasAt_below x hb)) (fun x => .inr (hasAt_below x hb))
theorem has_lt {B b : Nat} {l : List UInt8} {w : World} (h : Has B b l w) : B ≤ b ∧ b < w.heap.size := h.elim (fun x => ⟨x.1, x.lt⟩) (fun x => ⟨x.1, x.lt⟩)
theorem oth_blk {b g : Nat} {w w' : World} {cs : Array Value} {t : TypeId} {fr : Nat × Nat} (h : Oth b w w') (hg : w.heap[g]? = some (.cells cs t fr)) (hne : g ≠ b) (ht : t ≠ 5) : w'.heap[g]? = some (.cells cs t fr) :=
  h g _ hg (fun e => hne (Option.some.inj e)) (fun c fz e => ht (by injection e))
theorem writeK_calls (B b : Nat) (l : List UInt8) (s : ByteArray) (w : World) (h : Has B b l w) (hlen : l.length + s.size ≤ 140737488355328) (hBw : B ≤ w.heap.size) :
    Calls Try.prog 27 #[.pointer (some ⟨b, 0, none⟩), .string s] w fun e w' => e = .returned (.tuple #[.int .i64 s.size, .nilIface]) ∧ Has B b (l ++ s.data.toList) w' ∧ Below B w w' ∧ Oth b w w' :=
  (Any.Builder_WriteString_k lays166 extra B b _ s w h (by rw [Lib.byteCells_length]; exact hlen) hBw).mono fun e w' ⟨he, hat, hb, ho⟩ => ⟨he, by
    have hq : Lib.byteCells l ++ Lib.strCells s = Lib.byteCells (l ++ s.data.toList) := by rw [Lib.strCells_eq]; simp [Lib.byteCells]
    rw [hq] at hat; exact .inr hat, hb, ho⟩
theorem stringK_calls (B b : Nat) (l : List UInt8) (w : World) (h : Has B b l w) (hBw : B ≤ w.heap.size) :
    Calls Try.prog 30 #[.pointer (some ⟨b, 0, none⟩)] w fun e w' => e = .returned (.string ⟨l.toArray⟩) ∧ Has B b l w' ∧ Below B w w' ∧ Oth b w w' :=
  Any.Builder_String_any_k lays169 extra B b l w h hBw
end Go.Proofs.Ytdlcihbfdbdbbaa.Sb
