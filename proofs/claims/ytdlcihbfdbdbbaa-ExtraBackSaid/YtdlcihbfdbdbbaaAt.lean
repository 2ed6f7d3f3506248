/- A cursor at what is left of its bytes, as a list: plain Lean. -/
import Derived.Test.YtdlcihbfdbdbbaaCur
namespace Go.Proofs.Ytdlcihbfdbdbbaa.Cur
set_option linter.unusedVariables false
set_option linter.unusedSimpArgs false
open Go Go.RowKit Go.Proofs.Ytdlcihbfdbdbbaa.P Go.Proofs.Ytdlcihbfdbdbbaa.B Go.Proofs.Ytdlcihbfdbdbbaa.Num Go.Proofs.YtdlcihbfdbdbbaaW.PrintWords Go.Proofs.YtdlcihbfdbdbbaaW.PrintLast Go.Proofs.YtdlcihbfdbdbbaaW.PrintMore
/-- At this place the bytes R are left. -/
def At (s : ByteArray) (a : Int) (R : List UInt8) : Prop := s.size ≤ 140737488351232 ∧ ∃ pre : List UInt8, s.data.toList = pre ++ R ∧ a = pre.length
theorem At.start (s : ByteArray) (hs : s.size ≤ 140737488351232) : At s 0 s.data.toList := ⟨hs, [], rfl, rfl⟩
theorem At.size {s : ByteArray} {a : Int} {R : List UInt8} (h : At s a R) : (s.size : Int) = a + R.length := by
  obtain ⟨_, pre, he, rfl⟩ := h
  rw [← toList_length s, he]; simp
theorem At.nn {s : ByteArray} {a : Int} {R : List UInt8} (h : At s a R) : 0 ≤ a := by
  obtain ⟨_, pre, he, rfl⟩ := h
  omega
theorem At.big {s : ByteArray} {a : Int} {R : List UInt8} (h : At s a R) : (s.size : Int) ≤ 140737488351232 := by have := h.1; omega
theorem At.on {s : ByteArray} {a : Int} {m R : List UInt8} (h : At s a (m ++ R)) : At s (a + m.length) R := by
  obtain ⟨hs, pre, he, rfl⟩ := h
  exact ⟨hs, pre ++ m, by rw [he]; simp, by simp⟩
theorem take_at {s : ByteArray} {a n : Int} {m R : List UInt8} (h : At s a (m ++ R)) (hn : n = m.length) : cursor_Cursor_Take.f s a 0 n = some (strN m, s, a + m.length, 0) := by
  obtain ⟨hs, pre, he, rfl⟩ := h
  rw [take_list (pre := pre) (mid := m) (post := R) hs (by rw [he]; simp) rfl hn]
  simp
theorem take_fail {s : ByteArray} {a n : Int} {R : List UInt8} (h : At s a R) (hn : n < 0 ∨ (R.length : Int) < n) : cursor_Cursor_Take.f s a 0 n = some (strN [], s, a, 3) := by
  have h1 := h.size
  have h2 := h.nn
  exact take_short h.1 h2 (by omega) (by omega)
theorem left_at {s : ByteArray} {a : Int} {R : List UInt8} (h : At s a R) : wrap64 ((s.size : Int) - a) = R.length := by
  have h1 := h.size
  have h2 := h.nn
  have h3 := h.big
  rw [wrap_id (by omega) (by omega)]; omega
theorem leN_one (x : UInt8) : leN [x] = x.toNat := by simp [leN]
end Go.Proofs.Ytdlcihbfdbdbbaa.Cur
