/- What the reference's writing of a number comes to: plain Lean. -/
import Derived.Test.YtloojhhjljneeaaNumD
import Derived.Test.YtloojhhjljneeaaPx7
namespace Go.Proofs.Ytloojhhjljneeaa.Num
set_option linter.unusedVariables false
set_option linter.unusedSimpArgs false
open Go Go.RowKit Go.Proofs.Ytloojhhjljneeaa.P Go.Proofs.Ytloojhhjljneeaa.B Go.Proofs.YtloojhhjljneeaaW.PrintWords Go.Proofs.YtloojhhjljneeaaW.PrintLast Go.Proofs.YtloojhhjljneeaaW.PrintMore

theorem ref_of_loop (n c : Nat) (a1 : Int) (hc : a1.toNat = c) : ∀ (d k i m : Nat) (xs : List Int), i + d = min c 64 → m = n / 256 ^ i → n < 2 ^ 64 → xs = (ofN i n).map (fun b => (b.toNat : Int)) → d < k →
    portmanteauref01_Of.l0 k (m : Int) a1 xs (i : Int) = some (strN (ofN (min c 64) n)) := by
  intro d
  induction d with
  | zero =>
    intro k i m xs hd hm hn hx hk
    obtain ⟨k, rfl⟩ : ∃ m, k = m + 1 := ⟨k - 1, by omega⟩
    have hs : strOfNums xs = strN (ofN (min c 64) n) := by
      rw [show min c 64 = i by omega]; exact strN_eq _ _ hx
    simp only [portmanteauref01_Of.l0]
    by_cases h1 : (i : Int) < a1
    · rw [if_pos h1, if_neg (by omega), hs]
    · rw [if_neg h1, hs]
  | succ d ih =>
    intro k i m xs hd hm hn hx hk
    obtain ⟨k, rfl⟩ : ∃ m, k = m + 1 := ⟨k - 1, by omega⟩
    have hlen : xs.length = i := by rw [hx]; simp [ofN_length]
    have hm2 : m < 18446744073709551616 := by
      have : n / 256 ^ i ≤ n := Nat.div_le_self _ _
      omega
    simp only [portmanteauref01_Of.l0]
    rw [if_pos (by omega), if_pos (by omega), if_pos (by omega), wrap_id (by omega) (by omega)]
    have e1 : IntKind.u64.wrap (Int.tdiv (m : Int) 256) = ((m / 256 : Nat) : Int) := by
      rw [Int.tdiv_eq_ediv_of_nonneg (by omega), u64_id (by omega) (by omega)]
      simp
    have e2 : Int.tmod (m : Int) 256 % 256 = ((m % 256 : Nat) : Int) := by
      rw [Int.tmod_eq_emod_of_nonneg (by omega)]
      omega
    rw [e1, e2]
    refine ih k (i + 1) (m / 256) _ (by omega) ?_ hn ?_ (by omega)
    · rw [hm, Nat.div_div_eq_div_mul, Nat.pow_succ]
    · rw [hx]
      have : ofN (i + 1) n = ofN i n ++ [UInt8.ofNat (n / 256 ^ i % 256)] := by
        apply List.ext_getElem?
        intro j
        by_cases h1 : j < i
        · rw [List.getElem?_append_left (by simpa [ofN_length] using h1), ofN_get _ _ _ (by omega), ofN_get _ _ _ h1]
        · by_cases h2 : j = i
          · subst h2
            rw [List.getElem?_append_right (by simp [ofN_length]), ofN_get _ _ _ (by omega)]
            simp [ofN_length]
          · rw [List.getElem?_eq_none (by simp [ofN_length]; omega), List.getElem?_eq_none (by simp [ofN_length]; omega)]
      rw [this, List.map_append, ← hm]
      simp

theorem ref_of_eq (n : Nat) (hn : n < 2 ^ 64) (a1 : Int) (k : Nat) (hk : 64 < k) : portmanteauref01_Of.f k (n : Int) a1 = some (strN (ofI n a1)) := by
  unfold portmanteauref01_Of.f ofI
  exact ref_of_loop n a1.toNat a1 rfl (min a1.toNat 64) k 0 n [] (by omega) (by simp) hn rfl (by omega)

end Go.Proofs.Ytloojhhjljneeaa.Num
