/- bits.Reader: Peek and Skip where nothing is wrong. Plain Lean. -/
import Derived.Test.YtlfcepdaicngjaaBitN
import Derived.Test.YtlfcepdaicngjaaPx2
import Derived.Test.YtlfcepdaicngjaaPx3
import Derived.Test.YtlfcepdaicngjaaPx4
import Derived.Test.YtlfcepdaicngjaaPx5
namespace Go.Proofs.Ytlfcepdaicngjaa.Rd
set_option linter.unusedVariables false
set_option linter.unusedSimpArgs false
open Go Go.RowKit Go.Proofs.Ytlfcepdaicngjaa.P Go.Proofs.Ytlfcepdaicngjaa.B Go.Proofs.Ytlfcepdaicngjaa.Bn Go.Proofs.YtlfcepdaicngjaaW.PrintWords Go.Proofs.YtlfcepdaicngjaaW.PrintLast Go.Proofs.YtlfcepdaicngjaaW.PrintMore
/-- n bits from a place on. -/
def num (s : ByteArray) (a n : Nat) : Nat := leN s.data.toList / 2 ^ a % 2 ^ n
theorem num_lt (s : ByteArray) (a n : Nat) : num s a n < 2 ^ n := Nat.mod_lt _ (Nat.pow_pos (by decide))
theorem leN_get (l : List UInt8) (i : Nat) (h : i < l.length) : leN l / 256 ^ i % 256 = (l[i]).toNat := by
  have h1 := ofN_get l.length (leN l) i h
  rw [ofN_leN, List.getElem?_eq_getElem h] at h1
  injection h1 with h1
  rw [h1]; simp
theorem bt_le (s : ByteArray) (i : Nat) (h : i < s.size) : bt s (i : Int) = ((leN s.data.toList / 256 ^ i % 256 : Nat) : Int) := by
  rw [bt_nat s i (by simpa using h), leN_get _ _ (by simpa using h)]
theorem and7b (x : Nat) (hx : x < 4294967296) : Go.bits .and .i64 (x : Int) 7 = ((x % 8 : Nat) : Int) := and7 x hx
theorem nat_hi (x : Nat) (hx : x < 18446744073709551616) : x &&& (2 ^ 64 - (7 + 1)) = x / 8 * 8 := by
  apply Nat.eq_of_testBit_eq
  intro i
  rw [Nat.testBit_and, Nat.testBit_two_pow_sub_succ (by decide), show (7 : Nat) = 2 ^ 3 - 1 from rfl, Nat.testBit_two_pow_sub_one, show x / 8 * 8 = x / 2 ^ 3 * 2 ^ 3 from rfl, Nat.testBit_mul_two_pow, Nat.testBit_div_two_pow]
  by_cases h : i < 3
  · simp [h]; omega
  · by_cases h2 : i < 64
    · simp [h, h2, show 3 ≤ i by omega, show i - 3 + 3 = i by omega]
    · have : x.testBit i = false := Nat.testBit_lt_two_pow (Nat.lt_of_lt_of_le hx (by calc 18446744073709551616 = 2 ^ 64 := by decide
        _ ≤ 2 ^ i := Nat.pow_le_pow_right (by decide) (by omega)))
      simp [h, h2, this, show 3 ≤ i by omega, show i - 3 + 3 = i by omega]
theorem wrap_i64_small (n : Nat) (h : n < 9223372036854775808) : IntKind.i64.wrap (n : Int) = (n : Int) := by
  have e : (n : Int) % 2 ^ 64 = n := Int.emod_eq_of_lt (by omega) (by omega)
  simp only [IntKind.wrap, IntKind.bits, IntKind.signed, e]
  rw [if_neg]
  simp
  omega
theorem andNot7 (x : Nat) (h : x < 9223372036854775807) : Go.bits .andNot .i64 (x : Int) 7 = ((x / 8 * 8 : Nat) : Int) := by
  show IntKind.i64.wrap ((BitVec.ofInt 64 (x : Int) &&& ~~~BitVec.ofInt 64 7).toNat : Int) = _
  have h1 : (BitVec.ofInt 64 7).toNat = 7 := by decide
  have h2 : (BitVec.ofInt 64 (x : Int)).toNat = x := by rw [BitVec.ofInt_natCast, BitVec.toNat_ofNat]; exact Nat.mod_eq_of_lt (by omega)
  rw [BitVec.toNat_and, BitVec.toNat_not, h1, h2, show 2 ^ 64 - 1 - 7 = 2 ^ 64 - (7 + 1) by decide, nat_hi x (by omega)]
  exact wrap_i64_small _ (by omega)
/-- The low n bits, of 64. -/
theorem and_low64 (v n : Nat) (hv : v < 18446744073709551616) (hn : n ≤ 32) : Go.bits .and .u64 (v : Int) (IntKind.u64.wrap ((shl .u64 1 (n : Int)) - 1)) = ((v % 2 ^ n : Nat) : Int) := by
  have hp : (2 : Nat) ^ n ≤ 4294967296 := by calc 2 ^ n ≤ 2 ^ 32 := Nat.pow_le_pow_right (by decide) hn
    _ = 4294967296 := by decide
  have hp0 : 0 < (2 : Nat) ^ n := Nat.pow_pos (by decide)
  have e0 : shl .u64 1 (n : Int) = ((2 ^ n : Nat) : Int) := by
    unfold shl
    rw [Int.toNat_natCast, Nat.min_eq_left (by simp [IntKind.bits]; omega)]
    have e1 : (1 : Int) * (2 : Int) ^ n = ((2 ^ n : Nat) : Int) := by simp
    rw [e1, u64_id (by omega) (by omega)]
  have e2 : ((2 ^ n : Nat) : Int) - 1 = ((2 ^ n - 1 : Nat) : Int) := by omega
  rw [e0, e2, u64_id (by omega) (by omega), (bits_nat .u64 64 (by decide) (fun n h0 h1 => u64_id h0 h1) v (2 ^ n - 1) (by omega) (by omega)).1, Nat.and_two_pow_sub_one_eq_mod]
theorem shr64 (x t : Nat) (ht : t < 64) : shr .u64 (x : Int) (t : Int) = ((x / 2 ^ t : Nat) : Int) := by
  unfold shr
  rw [Int.toNat_natCast, Nat.min_eq_left (by simp [IntKind.bits]; omega)]
  simp
/-- Some bytes' bits. -/
theorem part (N a n c : Nat) (h : n + a % 8 ≤ 8 * c) : N / 256 ^ (a / 8) % 256 ^ c / 2 ^ (a % 8) % 2 ^ n = N / 2 ^ a % 2 ^ n := by
  have e1 : N / 2 ^ a = N / 256 ^ (a / 8) / 2 ^ (a % 8) := by rw [pow256, Nat.div_div_eq_div_mul, ← Nat.pow_add, show 8 * (a / 8) + a % 8 = a by omega]
  rw [e1]
  generalize N / 256 ^ (a / 8) = M
  generalize a % 8 = t at h ⊢
  rw [pow256, ← Nat.mod_mul_right_div_self, ← Nat.mod_mul_right_div_self, ← Nat.pow_add, Nat.mod_mod_of_dvd _ (Nat.pow_dvd_pow 2 (by omega))]
theorem bits_loop (s : ByteArray) (a n : Nat) (e : Int) (hs : s.size ≤ 1000000) (hn : n ≤ 32) (hin : a + n ≤ 8 * s.size) : ∀ (d k i : Nat), i + d = (n + a % 8 + 7) / 8 → d < k →
    bits_Reader_bits.l0 k n ((leN s.data.toList / 256 ^ (a / 8) % 256 ^ i : Nat) : Int) ((a / 8 : Nat) : Int) i s a e = some (((num s a n : Nat) : Int), s, (a : Int), e) := by
  have h7 := and7 a (by omega)
  intro d
  induction d with
  | zero =>
    intro k i hi hk
    obtain ⟨k, rfl⟩ : ∃ m, k = m + 1 := ⟨k - 1, by omega⟩
    have hlt : leN s.data.toList / 256 ^ (a / 8) % 256 ^ i < 18446744073709551616 := by
      refine Nat.lt_of_lt_of_le (Nat.mod_lt _ (Nat.pow_pos (by decide))) ?_
      calc 256 ^ i ≤ 256 ^ 8 := Nat.pow_le_pow_right (by decide) (by omega)
        _ = 18446744073709551616 := by decide
    have hpart := part (leN s.data.toList) a n i (by omega)
    have hnl := num_lt s a n
    have h32 : (2 : Nat) ^ n ≤ 4294967296 := by calc 2 ^ n ≤ 2 ^ 32 := Nat.pow_le_pow_right (by decide) hn
      _ = 4294967296 := by decide
    rw [bits_Reader_bits.l0, h7, wrap_id (by omega) (by omega), wrap_id (by omega) (by omega), if_neg (by omega), if_pos (by omega), if_pos (by omega)]
    unfold num at hnl ⊢
    rw [← hpart] at hnl ⊢
    generalize leN s.data.toList / 256 ^ (a / 8) % 256 ^ i = v at hlt hnl ⊢
    rw [shr64 v (a % 8) (by omega), and_low64 _ n (Nat.lt_of_le_of_lt (Nat.div_le_self _ _) hlt) hn]
    generalize v / 2 ^ (a % 8) % 2 ^ n = z at hnl ⊢
    rw [show ((z : Nat) : Int) % 4294967296 = z by omega]
  | succ d ih =>
    intro k i hi hk
    obtain ⟨k, rfl⟩ : ∃ m, k = m + 1 := ⟨k - 1, by omega⟩
    have hb := bt_le s (a / 8 + i) (by omega)
    have hb2 : leN s.data.toList / 256 ^ (a / 8 + i) % 256 < 256 := Nat.mod_lt _ (by decide)
    rw [bits_Reader_bits.l0, h7, wrap_id (x := (i : Int) * 8) (by omega) (by omega), wrap_id (x := (n : Int) + ((a % 8 : Nat) : Int)) (by omega) (by omega), if_pos (by omega),
      wrap_id (x := ((a / 8 : Nat) : Int) + (i : Int)) (by omega) (by omega), if_pos (by omega), if_pos (by omega), wrap_id (x := 8 * (i : Int)) (by omega) (by omega), if_pos (by omega), wrap_id (x := (i : Int) + 1) (by omega) (by omega),
      show ((a / 8 : Nat) : Int) + (i : Int) = ((a / 8 + i : Nat) : Int) by omega, hb, show 8 * (i : Int) = ((8 * i : Nat) : Int) by omega,
      or_shl _ _ i (by omega) (Nat.mod_lt _ (Nat.pow_pos (by decide))) hb2]
    have e3 : leN s.data.toList / 256 ^ (a / 8) % 256 ^ i + 256 ^ i * (leN s.data.toList / 256 ^ (a / 8 + i) % 256) = leN s.data.toList / 256 ^ (a / 8) % 256 ^ (i + 1) := by
      rw [Nat.pow_succ, Nat.mod_mul, Nat.pow_add, ← Nat.div_div_eq_div_mul]
    rw [e3]
    exact ih k (i + 1) (by omega) (by omega)
theorem bits_in (s : ByteArray) (a n : Nat) (e : Int) (hs : s.size ≤ 1000000) (hn : n ≤ 32) (hin : a + n ≤ 8 * s.size) (k : Nat) (hk : 6 < k) :
    bits_Reader_bits.f k s a e n = some (((num s a n : Nat) : Int), s, (a : Int), e) := by
  unfold bits_Reader_bits.f
  have h := bits_loop s a n e hs hn hin ((n + a % 8 + 7) / 8) k 0 (by omega) (by omega)
  rw [show (256 : Nat) ^ 0 = 1 from rfl, Nat.mod_one] at h
  rw [show ((a : Nat) : Int) / 8 = ((a / 8 : Nat) : Int) by omega]
  exact h
/-- The places a reader may be at. -/
def RPlace (s : ByteArray) (a : Int) : Prop := s.size ≤ 1000000 ∧ ∃ n : Nat, a = n ∧ n ≤ 8 * s.size
theorem left_of {s : ByteArray} {a : Int} (h : RPlace s a) : wrap64 (wrap64 (8 * (s.size : Int)) - a) = 8 * (s.size : Int) - a := by
  obtain ⟨h1, n, rfl, h2⟩ := h
  rw [wrap_id (x := 8 * (s.size : Int)) (by omega) (by omega), wrap_id (by omega) (by omega)]
theorem peek_in (s : ByteArray) (a n : Nat) (hs : s.size ≤ 1000000) (ha : a ≤ 8 * s.size) (hn : n ≤ 32) :
    bits_Reader_Peek.f 50 s a 0 n = some (((num s a (min n (8 * s.size - a)) : Nat) : Int), ((min n (8 * s.size - a) : Nat) : Int), s, (a : Int), 0) := by
  have hl := left_of (s := s) (a := (a : Int)) ⟨hs, a, rfl, ha⟩
  unfold bits_Reader_Peek.f
  rw [if_pos rfl, if_neg (by omega), decide_eq_false (by omega), show (50 : Nat) = 49 + 1 from rfl, bits_Reader_Peek.j0, if_neg (by decide)]
  unfold bits_Reader_left.f
  rw [Option.bind_some]
  dsimp only
  rw [hl]
  have hm : mn (n : Int) (8 * (s.size : Int) - (a : Int)) = ((min n (8 * s.size - a) : Nat) : Int) := by unfold mn; split <;> omega
  rw [hm, bits_in s a (min n (8 * s.size - a)) 0 hs (by omega) (by omega) 49 (by omega), Option.bind_some]
theorem skip_in (s : ByteArray) (a n : Nat) (hs : s.size ≤ 1000000) (ha : a + n ≤ 8 * s.size) : bits_Reader_Skip.f s a 0 n = some (s, ((a + n : Nat) : Int), 0) := by
  have hl := left_of (s := s) (a := (a : Int)) ⟨hs, a, rfl, by omega⟩
  unfold bits_Reader_Skip.f
  rw [if_pos rfl, if_neg (by omega)]
  unfold bits_Reader_left.f
  rw [Option.bind_some]
  dsimp only
  rw [hl, if_neg (by omega), wrap_id (by omega) (by omega), Int.natCast_add]
end Go.Proofs.Ytlfcepdaicngjaa.Rd
