/- What the program's writing of a number comes to: plain Lean. -/
import Derived.Test.YtdlcihbfdbdbbaaNumD
import Derived.Test.YtdlcihbfdbdbbaaPx6
namespace Go.Proofs.Ytdlcihbfdbdbbaa.Num
set_option linter.unusedVariables false
set_option linter.unusedSimpArgs false
open Go Go.RowKit Go.Proofs.Ytdlcihbfdbdbbaa.P Go.Proofs.Ytdlcihbfdbdbbaa.B Go.Proofs.YtdlcihbfdbdbbaaW.PrintWords Go.Proofs.YtdlcihbfdbdbbaaW.PrintLast Go.Proofs.YtdlcihbfdbdbbaaW.PrintMore

theorem of_loop (n c : Nat) (hn : n < 2 ^ 64) : ∀ (d k i : Nat) (xs : List Int), i + d = min c 8 → xs = (ofN i n).map (fun b => (b.toNat : Int)) ++ List.replicate (c - i) 0 → d < k →
    cursor_Of.l0 k (n : Int) xs ((min c 8 : Nat) : Int) (i : Int) = some (strN (ofN c n)) := by
  intro d
  induction d with
  | zero =>
    intro k i xs hd hx hk
    obtain ⟨k, rfl⟩ : ∃ m, k = m + 1 := ⟨k - 1, by omega⟩
    have hs : strOfNums xs = strN (ofN c n) := by
      apply strN_eq
      rw [hx]
      apply List.ext_getElem?
      intro j
      by_cases h1 : j < i
      · rw [List.getElem?_append_left (by simpa [ofN_length] using h1)]
        simp only [List.getElem?_map]
        rw [ofN_get _ _ _ h1, ofN_get _ _ _ (by omega)]
      · rw [List.getElem?_append_right (by simp [ofN_length]; omega)]
        by_cases h2 : j < c
        · simp only [List.getElem?_map]
          rw [ofN_get _ _ _ h2]
          have : n / 256 ^ j = 0 := by
            apply Nat.div_eq_of_lt
            have : 256 ^ 8 ≤ 256 ^ j := Nat.pow_le_pow_right (by decide) (by omega)
            omega
          simp only [Option.map_some, this, List.length_map, ofN_length, List.getElem?_replicate]
          rw [if_pos (by omega)]
          rfl
        · rw [List.getElem?_eq_none (by simp [ofN_length]; omega), List.getElem?_eq_none (by simp [ofN_length]; omega)]
    simp only [cursor_Of.l0]
    rw [if_neg (by omega), hs]
  | succ d ih =>
    intro k i xs hd hx hk
    obtain ⟨k, rfl⟩ : ∃ m, k = m + 1 := ⟨k - 1, by omega⟩
    have hlen : xs.length = c := by rw [hx]; simp [ofN_length]; omega
    have h8 : wrap64 (8 * (i : Int)) = ((8 * i : Nat) : Int) := by rw [wrap_id (by omega) (by omega)]; omega
    simp only [cursor_Of.l0]
    rw [if_pos (by omega), h8, if_pos (by omega), if_pos (by omega), if_pos (by omega), wrap_id (by omega) (by omega)]
    have e1 : shr .u64 (n : Int) ((8 * i : Nat) : Int) % 256 = ((n / 256 ^ i % 256 : Nat) : Int) := by
      unfold shr
      rw [Int.toNat_natCast, Nat.min_eq_left (by simp [IntKind.bits]; omega), show (256 : Nat) ^ i = 2 ^ (8 * i) by rw [Nat.pow_mul]]
      simp
    rw [e1, Int.toNat_natCast]
    refine ih k (i + 1) _ (by omega) ?_ (by omega)
    rw [hx]
    apply List.ext_getElem?
    intro j
    rw [List.getElem?_set]
    by_cases h1 : j < i
    · rw [if_neg (by omega), List.getElem?_append_left (by simpa [ofN_length] using h1), List.getElem?_append_left (by simp [ofN_length]; omega)]
      simp only [List.getElem?_map]
      rw [ofN_get _ _ _ h1, ofN_get _ _ _ (by omega)]
    · by_cases h2 : i = j
      · subst h2
        rw [if_pos rfl, if_pos (by simp [ofN_length]; omega), List.getElem?_append_left (by simp [ofN_length])]
        simp only [List.getElem?_map]
        rw [ofN_get _ _ _ (by omega)]
        simp
      · rw [if_neg h2, List.getElem?_append_right (by simp [ofN_length]; omega), List.getElem?_append_right (by simp [ofN_length]; omega)]
        simp only [List.length_map, ofN_length, List.getElem?_replicate]
        by_cases h3 : j < c
        · rw [if_pos (by omega), if_pos (by omega)]
        · rw [if_neg (by omega), if_neg (by omega)]

theorem of_eq (n : Nat) (hn : n < 2 ^ 64) (a1 : Int) (k : Nat) (hk : 64 < k) : cursor_Of.f k (n : Int) a1 = some (strN (ofI n a1)) := by
  have hm : mn (mx a1 0) 64 = ((min a1.toNat 64 : Nat) : Int) := by unfold mn mx; omega
  unfold cursor_Of.f ofI
  rw [hm, if_pos (by omega), if_pos (by omega)]
  simp only [Option.bind_some, List.length_replicate, Int.toNat_natCast]
  have hm2 : mn ((min a1.toNat 64 : Nat) : Int) 8 = ((min (min a1.toNat 64) 8 : Nat) : Int) := by unfold mn; omega
  rw [hm2]
  exact of_loop n (min a1.toNat 64) hn (min (min a1.toNat 64) 8) k 0 _ (by omega) (by simp [ofN]) (by omega)

end Go.Proofs.Ytdlcihbfdbdbbaa.Num
