/- Plain Lean: a reader of bits: both programs' readers answer alike. -/
import Derived.Test.YtdbekngboogaoaaBitN
import Derived.Test.YtdbekngboogaoaaPx1
import Derived.Test.YtdbekngboogaoaaPx10
import Derived.Test.YtdbekngboogaoaaPx11
import Derived.Test.YtdbekngboogaoaaPx12
import Derived.Test.YtdbekngboogaoaaPx13
import Derived.Test.YtdbekngboogaoaaPx2
import Derived.Test.YtdbekngboogaoaaPx3
import Derived.Test.YtdbekngboogaoaaPx7
import Derived.Test.YtdbekngboogaoaaPx8
import Derived.Test.YtdbekngboogaoaaPx9
namespace Go.Proofs.Ytdbekngboogaoaa.Rd
set_option linter.unusedVariables false
set_option linter.unusedSimpArgs false
open Go Go.RowKit Go.Proofs.Ytdbekngboogaoaa.P Go.Proofs.Ytdbekngboogaoaa.B Go.Proofs.Ytdbekngboogaoaa.Bn Go.Proofs.YtdbekngboogaoaaW.PrintWords Go.Proofs.YtdbekngboogaoaaW.PrintLast Go.Proofs.YtdbekngboogaoaaW.PrintMore

/-- n bits from a place on. -/
def num (s : ByteArray) (a n : Nat) : Nat := leN s.data.toList / 2 ^ a % 2 ^ n
theorem num_lt (s : ByteArray) (a n : Nat) : num s a n < 2 ^ n := Nat.mod_lt _ (Nat.pow_pos (by decide))
theorem leN_get (l : List UInt8) (i : Nat) (h : i < l.length) : leN l / 256 ^ i % 256 = (l[i]).toNat := by
  have h1 := ofN_get l.length (leN l) i h
  rw [ofN_leN, List.getElem?_eq_getElem h] at h1
  injection h1 with h1
  rw [h1]; simp
theorem bt_le (s : ByteArray) (i : Nat) (h : i < s.size) : bt s (i : Int) = ((leN s.data.toList / 256 ^ i % 256 : Nat) : Int) := by
  rw [bt_nat s i (by simpa using h), leN_get _ _ (by simpa using h)]
theorem and7b (x : Nat) (hx : x < 4294967296) : Go.bits .and .i64 (x : Int) 7 = ((x % 8 : Nat) : Int) := and7 x hx
theorem nat_hi (x : Nat) (hx : x < 18446744073709551616) : x &&& (2 ^ 64 - (7 + 1)) = x / 8 * 8 := by
  apply Nat.eq_of_testBit_eq
  intro i
  rw [Nat.testBit_and, Nat.testBit_two_pow_sub_succ (by decide), show (7 : Nat) = 2 ^ 3 - 1 from rfl, Nat.testBit_two_pow_sub_one, show x / 8 * 8 = x / 2 ^ 3 * 2 ^ 3 from rfl, Nat.testBit_mul_two_pow, Nat.testBit_div_two_pow]
  by_cases h : i < 3
  · simp [h]; omega
  · by_cases h2 : i < 64
    · simp [h, h2, show 3 ≤ i by omega, show i - 3 + 3 = i by omega]
    · have : x.testBit i = false := Nat.testBit_lt_two_pow (Nat.lt_of_lt_of_le hx (by calc 18446744073709551616 = 2 ^ 64 := by decide
        _ ≤ 2 ^ i := Nat.pow_le_pow_right (by decide) (by omega)))
      simp [h, h2, this, show 3 ≤ i by omega, show i - 3 + 3 = i by omega]
theorem wrap_i64_small (n : Nat) (h : n < 9223372036854775808) : IntKind.i64.wrap (n : Int) = (n : Int) := by
  have e : (n : Int) % 2 ^ 64 = n := Int.emod_eq_of_lt (by omega) (by omega)
  simp only [IntKind.wrap, IntKind.bits, IntKind.signed, e]
  rw [if_neg]
  simp
  omega
theorem andNot7 (x : Nat) (h : x < 9223372036854775807) : Go.bits .andNot .i64 (x : Int) 7 = ((x / 8 * 8 : Nat) : Int) := by
  show IntKind.i64.wrap ((BitVec.ofInt 64 (x : Int) &&& ~~~BitVec.ofInt 64 7).toNat : Int) = _
  have h1 : (BitVec.ofInt 64 7).toNat = 7 := by decide
  have h2 : (BitVec.ofInt 64 (x : Int)).toNat = x := by rw [BitVec.ofInt_natCast, BitVec.toNat_ofNat]; exact Nat.mod_eq_of_lt (by omega)
  rw [BitVec.toNat_and, BitVec.toNat_not, h1, h2, show 2 ^ 64 - 1 - 7 = 2 ^ 64 - (7 + 1) by decide, nat_hi x (by omega)]
  exact wrap_i64_small _ (by omega)
/-- The low n bits, of 64. -/
theorem and_low64 (v n : Nat) (hv : v < 18446744073709551616) (hn : n ≤ 32) : Go.bits .and .u64 (v : Int) (IntKind.u64.wrap ((shl .u64 1 (n : Int)) - 1)) = ((v % 2 ^ n : Nat) : Int) := by
  have hp : (2 : Nat) ^ n ≤ 4294967296 := by calc 2 ^ n ≤ 2 ^ 32 := Nat.pow_le_pow_right (by decide) hn
    _ = 4294967296 := by decide
  have hp0 : 0 < (2 : Nat) ^ n := Nat.pow_pos (by decide)
  have e0 : shl .u64 1 (n : Int) = ((2 ^ n : Nat) : Int) := by
    unfold shl
    rw [Int.toNat_natCast, Nat.min_eq_left (by simp [IntKind.bits]; omega)]
    have e1 : (1 : Int) * (2 : Int) ^ n = ((2 ^ n : Nat) : Int) := by simp
    rw [e1, u64_id (by omega) (by omega)]
  have e2 : ((2 ^ n : Nat) : Int) - 1 = ((2 ^ n - 1 : Nat) : Int) := by omega
  rw [e0, e2, u64_id (by omega) (by omega), (bits_nat .u64 64 (by decide) (fun n h0 h1 => u64_id h0 h1) v (2 ^ n - 1) (by omega) (by omega)).1, Nat.and_two_pow_sub_one_eq_mod]
theorem shr64 (x t : Nat) (ht : t < 64) : shr .u64 (x : Int) (t : Int) = ((x / 2 ^ t : Nat) : Int) := by
  unfold shr
  rw [Int.toNat_natCast, Nat.min_eq_left (by simp [IntKind.bits]; omega)]
  simp
/-- Some bytes' bits. -/
theorem part (N a n c : Nat) (h : n + a % 8 ≤ 8 * c) : N / 256 ^ (a / 8) % 256 ^ c / 2 ^ (a % 8) % 2 ^ n = N / 2 ^ a % 2 ^ n := by
  have e1 : N / 2 ^ a = N / 256 ^ (a / 8) / 2 ^ (a % 8) := by rw [pow256, Nat.div_div_eq_div_mul, ← Nat.pow_add, show 8 * (a / 8) + a % 8 = a by omega]
  rw [e1]
  generalize N / 256 ^ (a / 8) = M
  generalize a % 8 = t at h ⊢
  rw [pow256, ← Nat.mod_mul_right_div_self, ← Nat.mod_mul_right_div_self, ← Nat.pow_add, Nat.mod_mod_of_dvd _ (Nat.pow_dvd_pow 2 (by omega))]
theorem bits_loop (s : ByteArray) (a n : Nat) (e : Int) (hs : s.size ≤ 1000000) (hn : n ≤ 32) (hin : a + n ≤ 8 * s.size) : ∀ (d k i : Nat), i + d = (n + a % 8 + 7) / 8 → d < k →
    bits_Reader_bits.l0 k n ((leN s.data.toList / 256 ^ (a / 8) % 256 ^ i : Nat) : Int) ((a / 8 : Nat) : Int) i s a e = some (((num s a n : Nat) : Int), s, (a : Int), e) := by
  have h7 := and7 a (by omega)
  intro d
  induction d with
  | zero =>
    intro k i hi hk
    obtain ⟨k, rfl⟩ : ∃ m, k = m + 1 := ⟨k - 1, by omega⟩
    have hlt : leN s.data.toList / 256 ^ (a / 8) % 256 ^ i < 18446744073709551616 := by
      refine Nat.lt_of_lt_of_le (Nat.mod_lt _ (Nat.pow_pos (by decide))) ?_
      calc 256 ^ i ≤ 256 ^ 8 := Nat.pow_le_pow_right (by decide) (by omega)
        _ = 18446744073709551616 := by decide
    have hpart := part (leN s.data.toList) a n i (by omega)
    have hnl := num_lt s a n
    have h32 : (2 : Nat) ^ n ≤ 4294967296 := by calc 2 ^ n ≤ 2 ^ 32 := Nat.pow_le_pow_right (by decide) hn
      _ = 4294967296 := by decide
    rw [bits_Reader_bits.l0, h7, wrap_id (by omega) (by omega), wrap_id (by omega) (by omega), if_neg (by omega), if_pos (by omega), if_pos (by omega)]
    unfold num at hnl ⊢
    rw [← hpart] at hnl ⊢
    generalize leN s.data.toList / 256 ^ (a / 8) % 256 ^ i = v at hlt hnl ⊢
    rw [shr64 v (a % 8) (by omega), and_low64 _ n (Nat.lt_of_le_of_lt (Nat.div_le_self _ _) hlt) hn]
    generalize v / 2 ^ (a % 8) % 2 ^ n = z at hnl ⊢
    rw [show ((z : Nat) : Int) % 4294967296 = z by omega]
  | succ d ih =>
    intro k i hi hk
    obtain ⟨k, rfl⟩ : ∃ m, k = m + 1 := ⟨k - 1, by omega⟩
    have hb := bt_le s (a / 8 + i) (by omega)
    have hb2 : leN s.data.toList / 256 ^ (a / 8 + i) % 256 < 256 := Nat.mod_lt _ (by decide)
    rw [bits_Reader_bits.l0, h7, wrap_id (x := (i : Int) * 8) (by omega) (by omega), wrap_id (x := (n : Int) + ((a % 8 : Nat) : Int)) (by omega) (by omega), if_pos (by omega),
      wrap_id (x := ((a / 8 : Nat) : Int) + (i : Int)) (by omega) (by omega), if_pos (by omega), if_pos (by omega), wrap_id (x := 8 * (i : Int)) (by omega) (by omega), if_pos (by omega), wrap_id (x := (i : Int) + 1) (by omega) (by omega),
      show ((a / 8 : Nat) : Int) + (i : Int) = ((a / 8 + i : Nat) : Int) by omega, hb, show 8 * (i : Int) = ((8 * i : Nat) : Int) by omega,
      or_shl _ _ i (by omega) (Nat.mod_lt _ (Nat.pow_pos (by decide))) hb2]
    have e3 : leN s.data.toList / 256 ^ (a / 8) % 256 ^ i + 256 ^ i * (leN s.data.toList / 256 ^ (a / 8 + i) % 256) = leN s.data.toList / 256 ^ (a / 8) % 256 ^ (i + 1) := by
      rw [Nat.pow_succ, Nat.mod_mul, Nat.pow_add, ← Nat.div_div_eq_div_mul]
    rw [e3]
    exact ih k (i + 1) (by omega) (by omega)
theorem bits_in (s : ByteArray) (a n : Nat) (e : Int) (hs : s.size ≤ 1000000) (hn : n ≤ 32) (hin : a + n ≤ 8 * s.size) (k : Nat) (hk : 6 < k) :
    bits_Reader_bits.f k s a e n = some (((num s a n : Nat) : Int), s, (a : Int), e) := by
  unfold bits_Reader_bits.f
  have h := bits_loop s a n e hs hn hin ((n + a % 8 + 7) / 8) k 0 (by omega) (by omega)
  rw [show (256 : Nat) ^ 0 = 1 from rfl, Nat.mod_one] at h
  rw [show ((a : Nat) : Int) / 8 = ((a / 8 : Nat) : Int) by omega]
  exact h
theorem bit_loop (a : Nat) (b : Nat) (hb : b < 256) : ∀ (d k i : Nat), i + d = a % 8 → d < k → portmanteauref03_Bit.l0 k (a : Int) ((b / 2 ^ i : Nat) : Int) i = some ((b / 2 ^ (a % 8) % 2 : Nat) : Int) := by
  intro d
  induction d with
  | zero =>
    intro k i hi hk
    obtain ⟨k, rfl⟩ : ∃ m, k = m + 1 := ⟨k - 1, by omega⟩
    rw [portmanteauref03_Bit.l0, Int.tmod_eq_emod_of_nonneg (by omega), if_neg (by omega), show a % 8 = i by omega]
    generalize b / 2 ^ i = x
    rw [Int.tmod_eq_emod_of_nonneg (by omega), show ((x : Nat) : Int) % 2 % 4294967296 = ((x % 2 : Nat) : Int) by omega]
  | succ d ih =>
    intro k i hi hk
    obtain ⟨k, rfl⟩ : ∃ m, k = m + 1 := ⟨k - 1, by omega⟩
    have h1 : b / 2 ^ (i + 1) = b / 2 ^ i / 2 := by rw [Nat.pow_succ, Nat.div_div_eq_div_mul]
    have h2 : b / 2 ^ i < 256 := Nat.lt_of_le_of_lt (Nat.div_le_self _ _) hb
    have h3 := ih k (i + 1) (by omega) (by omega)
    rw [h1] at h3
    rw [portmanteauref03_Bit.l0, Int.tmod_eq_emod_of_nonneg (by omega), if_pos (by omega)]
    generalize b / 2 ^ i = x at h2 h3 ⊢
    rw [Int.tdiv_eq_ediv_of_nonneg (by omega), wrap_id (by omega) (by omega), wrap_id (by omega) (by omega), show ((x : Nat) : Int) / 2 = ((x / 2 : Nat) : Int) by omega]
    exact h3
theorem bit_in (s : ByteArray) (a : Nat) (hs : s.size ≤ 1000000) (hin : a < 8 * s.size) (k : Nat) (hk : 8 < k) : portmanteauref03_Bit.f k s a = some ((leN s.data.toList / 2 ^ a % 2 : Nat) : Int) := by
  have hb2 : leN s.data.toList / 256 ^ (a / 8) % 256 < 256 := Nat.mod_lt _ (by decide)
  have hl := bit_loop a (leN s.data.toList / 256 ^ (a / 8) % 256) hb2 (a % 8) k 0 (by omega) (by omega)
  have hp : leN s.data.toList / 256 ^ (a / 8) % 256 / 2 ^ (a % 8) % 2 = leN s.data.toList / 2 ^ a % 2 := part (leN s.data.toList) a 1 1 (by omega)
  rw [hp, Nat.pow_zero, Nat.div_one] at hl
  unfold portmanteauref03_Bit.f
  rw [Int.tdiv_eq_ediv_of_nonneg (by omega), wrap_id (by omega) (by omega), show ((a : Nat) : Int) / 8 = ((a / 8 : Nat) : Int) by omega, if_pos (by omega), if_pos (by omega), bt_le s _ (by omega), wrap_id (by omega) (by omega)]
  exact hl
theorem ref_loop (s : ByteArray) (a n : Nat) (e : Int) (hs : s.size ≤ 1000000) (hn : n ≤ 32) (hin : a + n ≤ 8 * s.size) : ∀ (d k i : Nat), i + d = n → d + 9 < k →
    portmanteauref03_Reader_number.l0 k n ((num s a i : Nat) : Int) ((2 ^ i % 4294967296 : Nat) : Int) i s a e = some (((num s a n : Nat) : Int), s, (a : Int), e) := by
  intro d
  induction d with
  | zero =>
    intro k i hi hk
    obtain ⟨k, rfl⟩ : ∃ m, k = m + 1 := ⟨k - 1, by omega⟩
    obtain rfl : i = n := by omega
    rw [portmanteauref03_Reader_number.l0, if_neg (by omega)]
  | succ d ih =>
    intro k i hi hk
    obtain ⟨k, rfl⟩ : ∃ m, k = m + 1 := ⟨k - 1, by omega⟩
    have hp : (2 : Nat) ^ i < 4294967296 := by calc 2 ^ i ≤ 2 ^ 31 := Nat.pow_le_pow_right (by decide) (by omega)
      _ < 4294967296 := by decide
    have hm : leN s.data.toList / 2 ^ (a + i) % 2 < 2 := Nat.mod_lt _ (by decide)
    have hnum : num s a (i + 1) = num s a i + 2 ^ i * (leN s.data.toList / 2 ^ (a + i) % 2) := by
      unfold num
      rw [Nat.pow_succ, Nat.mod_mul, Nat.pow_add, Nat.div_div_eq_div_mul]
    have hl := num_lt s a (i + 1)
    have hp2 : (2 : Nat) ^ (i + 1) ≤ 4294967296 := by calc 2 ^ (i + 1) ≤ 2 ^ 32 := Nat.pow_le_pow_right (by decide) (by omega)
      _ = 4294967296 := by decide
    have h3 := ih k (i + 1) (by omega) (by omega)
    rw [hnum] at h3 hl
    rw [portmanteauref03_Reader_number.l0, if_pos (by omega), wrap_id (by omega) (by omega), show (a : Int) + (i : Int) = ((a + i : Nat) : Int) by omega, bit_in s (a + i) hs (by omega) k (by omega)]
    simp only [Option.bind_some]
    rw [wrap_id (by omega) (by omega), Nat.mod_eq_of_lt hp]
    generalize leN s.data.toList / 2 ^ (a + i) % 2 = b at hm h3 hl ⊢
    have e2 : (((2 ^ i : Nat) : Int) * 2) % 4294967296 = ((2 ^ (i + 1) % 4294967296 : Nat) : Int) := by rw [Nat.pow_succ]; omega
    have e3 : ((2 ^ i : Nat) : Int) * (b : Int) = ((2 ^ i * b : Nat) : Int) := by simp
    have e4 : (((num s a i : Nat) : Int) + ((2 ^ i : Nat) : Int) * (b : Int) % 4294967296) % 4294967296 = ((num s a i + 2 ^ i * b : Nat) : Int) := by rw [e3]; omega
    rw [e4, e2]
    exact h3
theorem number_in (s : ByteArray) (a n : Nat) (e : Int) (hs : s.size ≤ 1000000) (hn : n ≤ 32) (hin : a + n ≤ 8 * s.size) (k : Nat) (hk : n + 9 < k) :
    portmanteauref03_Reader_number.f k s a e n = some (((num s a n : Nat) : Int), s, (a : Int), e) := by
  unfold portmanteauref03_Reader_number.f
  have h := ref_loop s a n e hs hn hin n k 0 (by omega) (by omega)
  simpa [num, Nat.mod_one] using h

/-- The places a reader may be at. -/
def RPlace (s : ByteArray) (a : Int) : Prop := s.size ≤ 1000000 ∧ ∃ n : Nat, a = n ∧ n ≤ 8 * s.size
theorem left_of {s : ByteArray} {a : Int} (h : RPlace s a) : wrap64 (wrap64 (8 * (s.size : Int)) - a) = 8 * (s.size : Int) - a := by
  obtain ⟨h1, n, rfl, h2⟩ := h
  rw [wrap_id (x := 8 * (s.size : Int)) (by omega) (by omega), wrap_id (by omega) (by omega)]
theorem read_same (s : ByteArray) (a e n : Int) (h : RPlace s a) : ∃ (v a' e' : Int), bits_Reader_Read.f 50 s a e n = some (v, s, a', e') ∧ portmanteauref03_Reader_Read.f 50 s a e n = some (v, s, a', e') ∧ RPlace s a' := by
  have hl := left_of h
  unfold bits_Reader_Read.f portmanteauref03_Reader_Read.f
  by_cases he : e = 0
  · subst he
    rw [if_pos rfl, if_pos rfl]
    by_cases h1 : n < 0 ∨ 32 < n
    · refine ⟨0, a, 2, ?_, ?_, h⟩
      · by_cases h0 : n < 0
        · rw [if_pos h0]; rfl
        · rw [if_neg h0, decide_eq_true (by omega : n > 32)]; rfl
      · by_cases h0 : n < 0
        · rw [if_pos h0]; rfl
        · rw [if_neg h0, decide_eq_true (by omega : n > 32)]; rfl
    · rw [if_neg (by omega), if_neg (by omega), decide_eq_false (by omega : ¬ n > 32)]
      rw [show (50 : Nat) = 49 + 1 from rfl, bits_Reader_Read.j0, portmanteauref03_Reader_Read.j0, if_neg (by decide), if_neg (by decide)]
      unfold bits_Reader_left.f
      rw [Option.bind_some]
      dsimp only
      rw [hl]
      by_cases h2 : n > 8 * (s.size : Int) - a
      · rw [if_pos h2, if_pos h2]
        exact ⟨0, a, 3, rfl, rfl, h⟩
      · rw [if_neg h2, if_neg h2]
        obtain ⟨hs, m, rfl, hm⟩ := h
        obtain ⟨n, rfl⟩ : ∃ x : Nat, n = (x : Int) := ⟨n.toNat, by omega⟩
        rw [bits_in s m n 0 hs (by omega) (by omega) 49 (by omega), number_in s m n 0 hs (by omega) (by omega) 49 (by omega), Option.bind_some]
        dsimp only
        exact ⟨_, _, _, rfl, rfl, hs, m + n, by rw [wrap_id (by omega) (by omega)]; omega, by omega⟩
  · rw [if_neg he, if_neg he]
    exact ⟨0, a, e, rfl, rfl, h⟩
theorem peek_same (s : ByteArray) (a e n : Int) (h : RPlace s a) : ∃ (v m : Int), bits_Reader_Peek.f 50 s a e n = some (v, m, s, a, e) ∧ portmanteauref03_Reader_Peek.f 50 s a e n = some (v, m, s, a, e) := by
  have hl := left_of h
  unfold bits_Reader_Peek.f portmanteauref03_Reader_Peek.f
  by_cases he : e = 0
  · subst he
    rw [if_pos rfl, if_pos rfl]
    by_cases h1 : n < 0 ∨ 32 < n
    · refine ⟨0, 0, ?_, ?_⟩
      · by_cases h0 : n < 0
        · rw [if_pos h0]; rfl
        · rw [if_neg h0, decide_eq_true (by omega : n > 32)]; rfl
      · by_cases h0 : n < 0
        · rw [if_pos h0]; rfl
        · rw [if_neg h0, decide_eq_true (by omega : n > 32)]; rfl
    · rw [if_neg (by omega), if_neg (by omega), decide_eq_false (by omega : ¬ n > 32)]
      rw [show (50 : Nat) = 49 + 1 from rfl, bits_Reader_Peek.j0, portmanteauref03_Reader_Peek.j0, if_neg (by decide), if_neg (by decide)]
      unfold bits_Reader_left.f
      rw [Option.bind_some]
      dsimp only
      rw [hl]
      obtain ⟨hs, m, rfl, hm⟩ := h
      obtain ⟨n, rfl⟩ : ∃ x : Nat, n = (x : Int) := ⟨n.toNat, by omega⟩
      by_cases h2 : (n : Int) > 8 * (s.size : Int) - (m : Int)
      · have e1 : mn (n : Int) (8 * (s.size : Int) - (m : Int)) = ((8 * s.size - m : Nat) : Int) := by unfold mn; omega
        rw [if_pos h2, e1, show 8 * (s.size : Int) - (m : Int) = ((8 * s.size - m : Nat) : Int) by omega, bits_in s m _ 0 hs (by omega) (by omega) 49 (by omega), number_in s m _ 0 hs (by omega) (by omega) 49 (by omega)]
        exact ⟨_, _, rfl, rfl⟩
      · have e1 : mn (n : Int) (8 * (s.size : Int) - (m : Int)) = (n : Int) := by unfold mn; omega
        rw [if_neg h2, e1, bits_in s m _ 0 hs (by omega) (by omega) 49 (by omega), number_in s m _ 0 hs (by omega) (by omega) 49 (by omega)]
        exact ⟨_, _, rfl, rfl⟩
  · rw [if_neg he, if_neg he]
    exact ⟨0, 0, rfl, rfl⟩
theorem skip_same (s : ByteArray) (a e n : Int) (h : RPlace s a) : ∃ (a' e' : Int), bits_Reader_Skip.f s a e n = some (s, a', e') ∧ portmanteauref03_Reader_Skip.f s a e n = some (s, a', e') ∧ RPlace s a' := by
  have hl := left_of h
  unfold bits_Reader_Skip.f portmanteauref03_Reader_Skip.f
  by_cases he : e = 0
  · subst he
    rw [if_pos rfl, if_pos rfl]
    by_cases h1 : n < 0
    · rw [if_pos h1, if_pos h1]
      exact ⟨a, 2, rfl, rfl, h⟩
    · rw [if_neg h1, if_neg h1]
      unfold bits_Reader_left.f
      rw [Option.bind_some]
      dsimp only
      rw [hl]
      by_cases h2 : n > 8 * (s.size : Int) - a
      · rw [if_pos h2, if_pos h2]
        exact ⟨a, 3, rfl, rfl, h⟩
      · rw [if_neg h2, if_neg h2]
        obtain ⟨hs, m, rfl, hm⟩ := h
        obtain ⟨n, rfl⟩ : ∃ x : Nat, n = (x : Int) := ⟨n.toNat, by omega⟩
        exact ⟨_, _, rfl, rfl, hs, m + n, by rw [wrap_id (by omega) (by omega)]; omega, by omega⟩
  · rw [if_neg he, if_neg he]
    exact ⟨a, e, rfl, rfl, h⟩
theorem align_loop (s : ByteArray) (hs : s.size ≤ 1000000) : ∀ (d k a : Nat), a ≤ 8 * s.size → a + d = (a + 7) / 8 * 8 → d < k → portmanteauref03_Reader_Align.l0 k s a 0 = some (s, (((a + 7) / 8 * 8 : Nat) : Int), 0) := by
  intro d
  induction d with
  | zero =>
    intro k a ha h hk
    obtain ⟨k, rfl⟩ : ∃ m, k = m + 1 := ⟨k - 1, by omega⟩
    rw [portmanteauref03_Reader_Align.l0, if_pos rfl, Int.tmod_eq_emod_of_nonneg (by omega), if_pos (by omega), show (a + 7) / 8 * 8 = a by omega]
  | succ d ih =>
    intro k a ha h hk
    obtain ⟨k, rfl⟩ : ∃ m, k = m + 1 := ⟨k - 1, by omega⟩
    have h3 := ih k (a + 1) (by omega) (by omega) (by omega)
    rw [portmanteauref03_Reader_Align.l0, if_pos rfl, Int.tmod_eq_emod_of_nonneg (by omega), if_neg (by omega), wrap_id (by omega) (by omega), show (a : Int) + 1 = ((a + 1 : Nat) : Int) by omega, h3, show (a + 1 + 7) / 8 * 8 = (a + 7) / 8 * 8 by omega]
theorem align_same (s : ByteArray) (a e : Int) (h : RPlace s a) : ∃ (a' : Int), bits_Reader_Align.f s a e = some (s, a', e) ∧ portmanteauref03_Reader_Align.f 50 s a e = some (s, a', e) ∧ RPlace s a' ∧ (e = 0 → ∃ c : Nat, a' = (8 * c : Nat)) := by
  unfold bits_Reader_Align.f portmanteauref03_Reader_Align.f
  by_cases he : e = 0
  · subst he
    obtain ⟨hs, m, rfl, hm⟩ := h
    rw [if_pos rfl, wrap_id (by omega) (by omega), show (m : Int) + 7 = ((m + 7 : Nat) : Int) by omega, andNot7 (m + 7) (by omega), align_loop s hs ((m + 7) / 8 * 8 - m) 50 m hm (by omega) (by omega)]
    exact ⟨_, rfl, rfl, ⟨hs, _, rfl, by omega⟩, fun _ => ⟨(m + 7) / 8, by rw [Nat.mul_comm]⟩⟩
  · rw [if_neg he, show (50 : Nat) = 49 + 1 from rfl, portmanteauref03_Reader_Align.l0, if_neg he]
    exact ⟨a, rfl, rfl, h, fun h => absurd h he⟩
theorem bytes_same (s : ByteArray) (a e n : Int) (h : RPlace s a) (hn : n ≤ 9223372036854775807) : ∃ (t : ByteArray) (a' e' : Int), bits_Reader_Bytes.f s a e n = some (t, s, a', e') ∧ portmanteauref03_Reader_Bytes.f 50 s a e n = some (t, s, a', e') ∧ RPlace s a' := by
  obtain ⟨b, ha, hb, hp, hc⟩ := align_same s a e h
  have hl := left_of hp
  unfold bits_Reader_Bytes.f portmanteauref03_Reader_Bytes.f
  rw [ha, hb, Option.bind_some, Option.bind_some]
  dsimp only
  by_cases he : e = 0
  · subst he
    rw [if_pos rfl, if_pos rfl]
    by_cases h1 : n < 0
    · rw [if_pos h1, if_pos h1]
      exact ⟨_, b, 2, rfl, rfl, hp⟩
    · obtain ⟨c, rfl⟩ := hc rfl
      obtain ⟨hs, m, hm, hm2⟩ := hp
      rw [if_neg h1, if_neg h1]
      unfold bits_Reader_left.f
      rw [Option.bind_some]
      dsimp only
      rw [hl, Int.tdiv_eq_ediv_of_nonneg (by omega), show ((8 * c : Nat) : Int) / 8 = (c : Int) by omega, wrap_id (x := (c : Int)) (by omega) (by omega), wrap_id (x := (s.size : Int) - (c : Int)) (by omega) (by omega),
        show (8 * (s.size : Int) - ((8 * c : Nat) : Int)) / 8 = (s.size : Int) - (c : Int) by omega]
      by_cases h2 : n > (s.size : Int) - (c : Int)
      · rw [if_pos h2, if_pos h2]
        exact ⟨_, _, 3, rfl, rfl, hs, m, hm, hm2⟩
      · obtain ⟨n, rfl⟩ : ∃ x : Nat, n = (x : Int) := ⟨n.toNat, by omega⟩
        rw [if_neg h2, if_neg h2, wrap_id (x := (c : Int) + (n : Int)) (by omega) (by omega), if_pos (by omega), if_pos (by omega), if_pos (by omega), if_pos (by omega), if_pos (by omega), if_pos (by omega),
          wrap_id (x := (n : Int) * 8) (by omega) (by omega), wrap_id (x := 8 * (n : Int)) (by omega) (by omega), show (n : Int) * 8 = 8 * (n : Int) by omega]
        exact ⟨_, _, _, rfl, rfl, hs, 8 * c + 8 * n, by rw [wrap_id (by omega) (by omega)]; omega, by omega⟩
  · rw [if_neg he, if_neg he]
    exact ⟨_, b, e, rfl, rfl, hp⟩
end Go.Proofs.Ytdbekngboogaoaa.Rd
