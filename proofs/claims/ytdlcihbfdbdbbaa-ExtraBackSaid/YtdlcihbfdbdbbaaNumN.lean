/- What the program's reading of a number comes to: plain Lean. -/
import Derived.Test.YtdlcihbfdbdbbaaNumD
import Derived.Test.YtdlcihbfdbdbbaaPx3
namespace Go.Proofs.Ytdlcihbfdbdbbaa.Num
set_option linter.unusedVariables false
set_option linter.unusedSimpArgs false
open Go Go.RowKit Go.Proofs.Ytdlcihbfdbdbbaa.P Go.Proofs.Ytdlcihbfdbdbbaa.B Go.Proofs.YtdlcihbfdbdbbaaW.PrintWords Go.Proofs.YtdlcihbfdbdbbaaW.PrintLast Go.Proofs.YtdlcihbfdbdbbaaW.PrintMore

theorem number_loop (s : ByteArray) (hs : s.size ≤ 8) : ∀ (d k i : Nat), i + d = s.size → d < k →
    cursor_number.l0 k s ((leN (s.data.toList.take i) : Nat) : Int) (s.size : Int) (i : Int) = some ((leN s.data.toList : Nat) : Int) := by
  have hl : s.data.toList.length = s.size := toList_length s
  intro d
  induction d with
  | zero =>
    intro k i hd hk
    obtain ⟨k, rfl⟩ : ∃ m, k = m + 1 := ⟨k - 1, by omega⟩
    simp only [cursor_number.l0]
    rw [if_neg (by omega), List.take_of_length_le (by omega)]
  | succ d ih =>
    intro k i hd hk
    obtain ⟨k, rfl⟩ : ∃ m, k = m + 1 := ⟨k - 1, by omega⟩
    have hlt : i < s.data.toList.length := by omega
    have h8 : wrap64 (8 * (i : Int)) = ((8 * i : Nat) : Int) := by rw [wrap_id (by omega) (by omega)]; omega
    have hi1 : wrap64 ((i : Int) + 1) = ((i + 1 : Nat) : Int) := by rw [wrap_id (by omega) (by omega)]; omega
    have hb := bt_nat s i hlt
    have ht := leN_lt (s.data.toList.take i)
    rw [List.length_take, Nat.min_eq_left (by omega)] at ht
    simp only [cursor_number.l0]
    rw [if_pos (by omega), if_pos (by omega), if_pos (by omega), h8, if_pos (by omega), hi1, hb, or_shl _ _ i (by omega) ht (UInt8.toNat_lt _)]
    have e : leN (s.data.toList.take (i + 1)) = leN (s.data.toList.take i) + 256 ^ i * (s.data.toList[i]).toNat := by
      rw [List.take_succ_eq_append_getElem hlt, leN_append, List.length_take, Nat.min_eq_left (by omega)]
      simp [leN]
    rw [← e]
    exact ih k (i + 1) (by omega) (by omega)

theorem number_eq (s : ByteArray) (hs : s.size ≤ 8) (k : Nat) (hk : 8 < k) : cursor_number.f k s = some ((leN s.data.toList : Nat) : Int) := by
  have := number_loop s hs s.size k 0 (by omega) (by omega)
  simpa [cursor_number.f, leN] using this

end Go.Proofs.Ytdlcihbfdbdbbaa.Num
