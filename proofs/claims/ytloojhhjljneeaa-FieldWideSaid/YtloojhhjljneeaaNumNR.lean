/- What the reference's reading of a number comes to: plain Lean. -/
import Derived.Test.YtloojhhjljneeaaNumD
import Derived.Test.YtloojhhjljneeaaPx5
namespace Go.Proofs.Ytloojhhjljneeaa.Num
set_option linter.unusedVariables false
set_option linter.unusedSimpArgs false
open Go Go.RowKit Go.Proofs.Ytloojhhjljneeaa.P Go.Proofs.Ytloojhhjljneeaa.B Go.Proofs.YtloojhhjljneeaaW.PrintWords Go.Proofs.YtloojhhjljneeaaW.PrintLast Go.Proofs.YtloojhhjljneeaaW.PrintMore

theorem ref_number_loop (s : ByteArray) (hs : s.size ≤ 8) : ∀ (i k : Nat), i ≤ s.size → i < k →
    portmanteauref01_Number.l0 k s ((leN (s.data.toList.drop i) : Nat) : Int) ((i : Int) - 1) = some ((leN s.data.toList : Nat) : Int) := by
  have hl : s.data.toList.length = s.size := toList_length s
  intro i
  induction i with
  | zero =>
    intro k hd hk
    obtain ⟨k, rfl⟩ : ∃ m, k = m + 1 := ⟨k - 1, by omega⟩
    simp only [portmanteauref01_Number.l0]
    rw [if_neg (by omega)]
    simp
  | succ i ih =>
    intro k hd hk
    obtain ⟨k, rfl⟩ : ∃ m, k = m + 1 := ⟨k - 1, by omega⟩
    have hlt : i < s.data.toList.length := by omega
    have hb := bt_nat s i hlt
    have ht := leN_lt (s.data.toList.drop i)
    have hp : 256 ^ (s.data.toList.drop i).length ≤ 256 ^ 8 := Nat.pow_le_pow_right (by decide) (by simp; omega)
    have e : leN (s.data.toList.drop i) = (s.data.toList[i]).toNat + 256 * leN (s.data.toList.drop (i + 1)) := by
      rw [List.drop_eq_getElem_cons hlt]; rfl
    have hb2 := UInt8.toNat_lt (s.data.toList[i])
    simp only [portmanteauref01_Number.l0]
    rw [show (((i + 1 : Nat) : Int) - 1) = (i : Int) by omega, if_pos (by omega), if_pos (by omega), if_pos (by omega), hb, wrap_id (by omega) (by omega),
      u64_id (x := ((s.data.toList[i]).toNat : Int)) (by omega) (by omega), u64_id (x := ((leN (s.data.toList.drop (i + 1)) : Nat) : Int) * 256) (by omega) (by omega), u64_id (by omega) (by omega)]
    rw [show ((leN (s.data.toList.drop (i + 1)) : Nat) : Int) * 256 + ((s.data.toList[i]).toNat : Int) = ((leN (s.data.toList.drop i) : Nat) : Int) by omega]
    exact ih k (by omega) (by omega)

theorem ref_number_eq (s : ByteArray) (hs : s.size ≤ 8) (k : Nat) (hk : 8 < k) : portmanteauref01_Number.f k s = some ((leN s.data.toList : Nat) : Int) := by
  have := ref_number_loop s hs s.size k (by omega) (by omega)
  rw [List.drop_of_length_le (by simp)] at this
  unfold portmanteauref01_Number.f
  rw [wrap_id (by omega) (by omega)]
  exact this

end Go.Proofs.Ytloojhhjljneeaa.Num
