/- Two: what it takes. -/
import Derived.Test.YtdlcihbfdbdbbaaCur
import Derived.Test.YtdlcihbfdbdbbaaPx3
namespace Go.Proofs.Ytdlcihbfdbdbbaa.Cur
set_option linter.unusedVariables false
set_option linter.unusedSimpArgs false
open Go Go.RowKit Go.Proofs.Ytdlcihbfdbdbbaa.P Go.Proofs.Ytdlcihbfdbdbbaa.B Go.Proofs.Ytdlcihbfdbdbbaa.Num Go.Proofs.YtdlcihbfdbdbbaaW.PrintWords Go.Proofs.YtdlcihbfdbdbbaaW.PrintLast Go.Proofs.YtdlcihbfdbdbbaaW.PrintMore
section
variable {s : ByteArray} {at_ : Int} {pre mid post : List UInt8}
theorem two_list (hs : s.size ≤ 140737488351232) (h : s.data.toList = pre ++ mid ++ post) (ha : at_ = pre.length) (hn : mid.length = 2) (k : Nat) (hk : 8 < k) :
    cursor_Cursor_Two.f k s at_ 0 = some (((leN mid : Nat) : Int), s, (((pre ++ mid).length : Nat) : Int), 0) := by
  unfold cursor_Cursor_Two.f
  have hb := leN_lt mid
  rw [hn] at hb
  rw [take_list hs h ha (by omega)]
  simp only [Option.bind_some]
  rw [number_strN _ (by omega) _ hk]
  simp only [Option.bind_some]
  rw [u16_mod, show ((leN mid : Nat) : Int) % 65536 = (leN mid : Nat) by omega]
theorem two_short (hs : s.size ≤ 140737488351232) (ha : 0 ≤ at_) (ha2 : at_ ≤ s.size) (hn : (s.size : Int) - at_ < 2) (k : Nat) (hk : 8 < k) : cursor_Cursor_Two.f k s at_ 0 = some (0, s, at_, 3) := by
  unfold cursor_Cursor_Two.f
  rw [take_short hs ha ha2 (.inr hn)]
  simp only [Option.bind_some]
  rw [number_strN _ (by simp) _ hk]
  rfl
theorem two_bad {e : Int} (he : e ≠ 0) (k : Nat) (hk : 8 < k) : cursor_Cursor_Two.f k s at_ e = some (0, s, at_, e) := by
  unfold cursor_Cursor_Two.f
  rw [take_bad he]
  simp only [Option.bind_some]
  rw [number_strN _ (by simp) _ hk]
  rfl
end
end Go.Proofs.Ytdlcihbfdbdbbaa.Cur
