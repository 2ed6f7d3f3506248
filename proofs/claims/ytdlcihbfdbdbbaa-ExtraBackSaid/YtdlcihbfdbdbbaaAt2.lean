/- Two at what is left: plain Lean. -/
import Derived.Test.YtdlcihbfdbdbbaaAt
import Derived.Test.YtdlcihbfdbdbbaaCurTwo
import Derived.Test.YtdlcihbfdbdbbaaPx3
namespace Go.Proofs.Ytdlcihbfdbdbbaa.Cur
set_option linter.unusedVariables false
set_option linter.unusedSimpArgs false
open Go Go.RowKit Go.Proofs.Ytdlcihbfdbdbbaa.P Go.Proofs.Ytdlcihbfdbdbbaa.B Go.Proofs.Ytdlcihbfdbdbbaa.Num Go.Proofs.YtdlcihbfdbdbbaaW.PrintWords Go.Proofs.YtdlcihbfdbdbbaaW.PrintLast Go.Proofs.YtdlcihbfdbdbbaaW.PrintMore
theorem two_at {s : ByteArray} {a : Int} {m R : List UInt8} (h : At s a (m ++ R)) (hn : m.length = 2) (k : Nat) (hk : 8 < k) : cursor_Cursor_Two.f k s a 0 = some (((leN m : Nat) : Int), s, a + m.length, 0) := by
  obtain ⟨hs, pre, he, rfl⟩ := h
  rw [two_list (pre := pre) (mid := m) (post := R) hs (by rw [he]; simp) rfl hn k hk]
  simp
theorem two_fail {s : ByteArray} {a : Int} {R : List UInt8} (h : At s a R) (hn : R.length < 2) (k : Nat) (hk : 8 < k) : cursor_Cursor_Two.f k s a 0 = some (0, s, a, 3) := by
  have h1 := h.size
  have h2 := h.nn
  exact two_short h.1 h2 (by omega) (by omega) k hk
end Go.Proofs.Ytdlcihbfdbdbbaa.Cur
