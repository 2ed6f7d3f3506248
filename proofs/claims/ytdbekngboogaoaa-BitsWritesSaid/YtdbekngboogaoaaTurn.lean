/- Bits in the other order. Plain Lean. -/
import Derived.Test.YtdbekngboogaoaaBitN
import Derived.Test.YtdbekngboogaoaaPx4
import Derived.Test.YtdbekngboogaoaaPx6
namespace Go.Proofs.Ytdbekngboogaoaa.D3
set_option linter.unusedVariables false
set_option linter.unusedSimpArgs false
open Go Go.RowKit Go.Proofs.Ytdbekngboogaoaa.P Go.Proofs.Ytdbekngboogaoaa.B Go.Proofs.Ytdbekngboogaoaa.Bn Go.Proofs.YtdbekngboogaoaaW.PrintWords Go.Proofs.YtdbekngboogaoaaW.PrintLast Go.Proofs.YtdbekngboogaoaaW.PrintMore

theorem u32_mod (x : Int) : IntKind.u32.wrap x = x % 4294967296 := by simp [IntKind.wrap, IntKind.bits, IntKind.signed]
def rev (v : Nat) : Nat → Nat
  | 0 => 0
  | i + 1 => 2 * rev v i + v / 2 ^ i % 2
theorem rev_lt (v : Nat) : ∀ i, rev v i < 2 ^ i
  | 0 => by simp [rev]
  | i + 1 => by have := rev_lt v i; rw [rev, Nat.pow_succ]; omega
theorem rev_bit (v : Nat) : ∀ n j, (rev v n).testBit j = (decide (j < n) && v.testBit (n - 1 - j)) := by
  intro n
  induction n with
  | zero => intro j; simp [rev]
  | succ n ih =>
    intro j
    rw [rev]
    cases j with
    | zero =>
      rw [Nat.testBit_zero, Nat.testBit_eq_decide_div_mod_eq]
      simp
    | succ j =>
      rw [Nat.testBit_succ, show (2 * rev v n + v / 2 ^ n % 2) / 2 = rev v n by omega, ih]
      rw [show n + 1 - 1 - (j + 1) = n - 1 - j by omega]
      congr 1
      simp
theorem rev_rev (v n : Nat) : rev (rev v n) n = v % 2 ^ n := by
  apply Nat.eq_of_testBit_eq
  intro j
  rw [rev_bit, rev_bit, Nat.testBit_mod_two_pow]
  by_cases h : j < n
  · simp [h, show n - 1 - j < n by omega, show n - 1 - (n - 1 - j) = j by omega]
  · simp [h]
theorem rev_at (v n k : Nat) (h : k < n) : rev v n / 2 ^ k % 2 = v / 2 ^ (n - 1 - k) % 2 := by
  have h1 := rev_bit v n k
  rw [Nat.testBit_eq_decide_div_mod_eq, Nat.testBit_eq_decide_div_mod_eq] at h1
  simp only [h, decide_true, Bool.true_and] at h1
  have h2 := Nat.mod_two_eq_zero_or_one (rev v n / 2 ^ k)
  have h3 := Nat.mod_two_eq_zero_or_one (v / 2 ^ (n - 1 - k))
  rcases h2 with h2 | h2 <;> rcases h3 with h3 | h3 <;> simp [h2, h3] at h1 ⊢
theorem and1 (x : Nat) (hx : x < 4294967296) : Go.bits .and .u32 (x : Int) 1 = ((x % 2 : Nat) : Int) := by
  have h := (bits_nat .u32 32 (by decide) (fun n h0 h1 => by simp [IntKind.wrap, IntKind.bits, IntKind.signed]; omega) x 1 (by omega) (by omega)).1
  rw [show ((1 : Nat) : Int) = 1 from rfl] at h
  rw [h, Nat.and_one_is_mod]
theorem turn_loop (v n : Nat) (hv : v < 4294967296) (hn : n ≤ 32) : ∀ (d k i : Nat), i + d = n → d < k → bits_Turn.l0 k v n ((2 ^ (n - i) * rev v i : Nat) : Int) n i = some ((rev v n : Nat) : Int) := by
  intro d
  induction d with
  | zero =>
    intro k i h hk
    obtain ⟨k, rfl⟩ : ∃ m, k = m + 1 := ⟨k - 1, by omega⟩
    obtain rfl : i = n := by omega
    rw [bits_Turn.l0, if_neg (by omega)]
    simp
  | succ d ih =>
    intro k i h hk
    obtain ⟨k, rfl⟩ : ∃ m, k = m + 1 := ⟨k - 1, by omega⟩
    have w1 : wrap64 ((n : Int) - 1) = ((n - 1 : Nat) : Int) := by rw [wrap_id (by omega) (by omega)]; omega
    have w2 : wrap64 (((n - 1 : Nat) : Int) - (i : Int)) = ((n - 1 - i : Nat) : Int) := by rw [wrap_id (by omega) (by omega)]; omega
    rw [bits_Turn.l0, if_pos (by omega), if_pos (by omega), w1, w2, if_pos (by omega), wrap_id (by omega) (by omega)]
    have e1 : shr .u32 (v : Int) (i : Int) = ((v / 2 ^ i : Nat) : Int) := by
      unfold shr
      rw [Int.toNat_natCast, Nat.min_eq_left (by simp [IntKind.bits]; omega)]
      simp
    have hb : v / 2 ^ i < 4294967296 := Nat.lt_of_le_of_lt (Nat.div_le_self _ _) hv
    rw [e1, and1 _ hb]
    have hm : v / 2 ^ i % 2 < 2 := Nat.mod_lt _ (by decide)
    have hp : 2 ^ (n - 1 - i) ≤ 2 ^ 31 := Nat.pow_le_pow_right (by decide) (by omega)
    have e2 : shl .u32 ((v / 2 ^ i % 2 : Nat) : Int) ((n - 1 - i : Nat) : Int) = ((2 ^ (n - 1 - i) * (v / 2 ^ i % 2) : Nat) : Int) := by
      unfold shl
      rw [Int.toNat_natCast, Nat.min_eq_left (by simp [IntKind.bits]; omega)]
      have e3 : ((v / 2 ^ i % 2 : Nat) : Int) * 2 ^ (n - 1 - i) = ((2 ^ (n - 1 - i) * (v / 2 ^ i % 2) : Nat) : Int) := by rw [Nat.mul_comm]; simp
      rw [e3]
      have : 2 ^ (n - 1 - i) * (v / 2 ^ i % 2) ≤ 2 ^ 31 * 1 := Nat.mul_le_mul hp (by omega)
      rw [u32_mod]
      omega
    rw [e2]
    have hr := rev_lt v i
    have hbig : 2 ^ (n - i) * rev v i < 2 ^ 32 := by
      calc 2 ^ (n - i) * rev v i < 2 ^ (n - i) * 2 ^ i := Nat.mul_lt_mul_of_pos_left hr (Nat.pow_pos (by decide))
        _ = 2 ^ n := by rw [← Nat.pow_add]; congr 1; omega
        _ ≤ 2 ^ 32 := Nat.pow_le_pow_right (by decide) hn
    have hsm : 2 ^ (n - 1 - i) * (v / 2 ^ i % 2) < 2 ^ (n - i) := by
      have : 2 ^ (n - i) = 2 ^ (n - 1 - i) * 2 := by rw [← Nat.pow_succ]; congr 1; omega
      rw [this]
      exact Nat.mul_lt_mul_of_pos_left hm (Nat.pow_pos (by decide))
    have hsm2 : 2 ^ (n - 1 - i) * (v / 2 ^ i % 2) < 2 ^ 32 := Nat.lt_of_lt_of_le hsm (Nat.pow_le_pow_right (by decide) (by omega))
    rw [(bits_nat .u32 32 (by decide) (fun n h0 h1 => by simp [IntKind.wrap, IntKind.bits, IntKind.signed]; omega) _ _ hbig hsm2).2, ← Nat.two_pow_add_eq_or_of_lt hsm]
    have e4 : 2 ^ (n - i) * rev v i + 2 ^ (n - 1 - i) * (v / 2 ^ i % 2) = 2 ^ (n - (i + 1)) * rev v (i + 1) := by
      have : 2 ^ (n - i) = 2 ^ (n - 1 - i) * 2 := by rw [← Nat.pow_succ]; congr 1; omega
      rw [this, rev, show n - (i + 1) = n - 1 - i by omega, Nat.mul_add, Nat.mul_assoc]
    rw [e4]
    exact ih k (i + 1) (by omega) (by omega)
theorem turn_in (v n : Nat) (hv : v < 4294967296) (h1 : 1 ≤ n) (hn : n ≤ 32) : bits_Turn.f 40 v n = some ((rev v n : Nat) : Int) := by
  unfold bits_Turn.f
  rw [if_neg (by omega), show (40 : Nat) = 39 + 1 from rfl, bits_Turn.j0, if_neg (by simp; omega)]
  have h := turn_loop v n hv hn n 39 0 (by omega) (by omega)
  simpa [rev] using h
theorem turn_out (v n : Int) (h : n < 1 ∨ 32 < n) : bits_Turn.f 40 v n = some 0 := by
  unfold bits_Turn.f
  by_cases h1 : n < 1
  · rw [if_pos h1, show (40 : Nat) = 39 + 1 from rfl, bits_Turn.j0, if_pos rfl]
  · rw [if_neg h1, show (40 : Nat) = 39 + 1 from rfl, bits_Turn.j0, if_pos (by simp; omega)]
theorem ref_loop (v n : Nat) (hv : v < 4294967296) (hn : n ≤ 32) : ∀ (d k i : Nat), i + d = n → d < k → portmanteauref03_Turn.l0 k ((v / 2 ^ i : Nat) : Int) n ((rev v i : Nat) : Int) i = some ((rev v n : Nat) : Int) := by
  intro d
  induction d with
  | zero =>
    intro k i h hk
    obtain ⟨k, rfl⟩ : ∃ m, k = m + 1 := ⟨k - 1, by omega⟩
    obtain rfl : i = n := by omega
    rw [portmanteauref03_Turn.l0, if_neg (by omega)]
  | succ d ih =>
    intro k i h hk
    obtain ⟨k, rfl⟩ : ∃ m, k = m + 1 := ⟨k - 1, by omega⟩
    rw [portmanteauref03_Turn.l0, if_pos (by omega), wrap_id (by omega) (by omega)]
    have hb : v / 2 ^ i < 4294967296 := Nat.lt_of_le_of_lt (Nat.div_le_self _ _) hv
    have hr := rev_lt v (i + 1)
    have hp : 2 ^ (i + 1) ≤ 2 ^ 32 := Nat.pow_le_pow_right (by decide) (by omega)
    rw [rev] at hr
    have e1 : Int.tdiv ((v / 2 ^ i : Nat) : Int) 2 % 4294967296 = ((v / 2 ^ (i + 1) : Nat) : Int) := by
      rw [Nat.pow_succ, ← Nat.div_div_eq_div_mul]
      generalize v / 2 ^ i = x at hb
      rw [Int.tdiv_eq_ediv_of_nonneg (by omega)]
      omega
    have e2 : (((rev v i : Nat) : Int) * 2 % 4294967296 + Int.tmod ((v / 2 ^ i : Nat) : Int) 2) % 4294967296 = ((rev v (i + 1) : Nat) : Int) := by
      rw [rev]
      generalize v / 2 ^ i = x at hb hr ⊢
      generalize rev v i = y at hr ⊢
      rw [Int.tmod_eq_emod_of_nonneg (by omega)]
      omega
    rw [e1, e2]
    exact ih k (i + 1) (by omega) (by omega)
theorem ref_in (v n : Nat) (hv : v < 4294967296) (h1 : 1 ≤ n) (hn : n ≤ 32) : portmanteauref03_Turn.f 40 v n = some ((rev v n : Nat) : Int) := by
  unfold portmanteauref03_Turn.f
  rw [if_neg (by omega), show (40 : Nat) = 39 + 1 from rfl, portmanteauref03_Turn.j0, if_neg (by simp; omega)]
  have h := ref_loop v n hv hn n 39 0 (by omega) (by omega)
  simpa [rev] using h
theorem ref_out (v n : Int) (h : n < 1 ∨ 32 < n) : portmanteauref03_Turn.f 40 v n = some 0 := by
  unfold portmanteauref03_Turn.f
  by_cases h1 : n < 1
  · rw [if_pos h1, show (40 : Nat) = 39 + 1 from rfl, portmanteauref03_Turn.j0, if_pos rfl]
  · rw [if_neg h1, show (40 : Nat) = 39 + 1 from rfl, portmanteauref03_Turn.j0, if_pos (by simp; omega)]
end Go.Proofs.Ytdbekngboogaoaa.D3
