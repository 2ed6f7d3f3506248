/- Bits as numbers: bytes, the lowest first; what one step of writing does. Plain Lean. -/
import Derived.Test.YtlfcepdaicngjaaBytes
namespace Go.Proofs.Ytlfcepdaicngjaa.Bn
set_option linter.unusedVariables false
set_option linter.unusedSimpArgs false
open Go Go.RowKit Go.Proofs.Ytlfcepdaicngjaa.B Go.Proofs.YtlfcepdaicngjaaW.PrintWords Go.Proofs.YtlfcepdaicngjaaW.PrintLast Go.Proofs.YtlfcepdaicngjaaW.PrintMore

/-- The first c bytes of a number. -/
def byt (N c : Nat) : List Int := (ofN c N).map (fun b => (b.toNat : Int))
theorem byt_len (N c : Nat) : (byt N c).length = c := by simp [byt, ofN_length]
theorem ofN_snoc (c N : Nat) : ofN (c + 1) N = ofN c N ++ [UInt8.ofNat (N / 256 ^ c % 256)] := by
  induction c generalizing N with
  | zero => simp [ofN]
  | succ c ih => rw [ofN, ih (N / 256)]; simp only [ofN, List.cons_append]; rw [Nat.div_div_eq_div_mul, Nat.pow_succ, Nat.mul_comm 256]
theorem byt_snoc (N c : Nat) : byt N (c + 1) = byt N c ++ [((N / 256 ^ c % 256 : Nat) : Int)] := by
  unfold byt
  rw [ofN_snoc, List.map_append]
  simp
theorem byt_zero (N c : Nat) (h : N < 256 ^ c) : byt N (c + 1) = byt N c ++ [0] := by
  rw [byt_snoc, Nat.div_eq_of_lt h]; rfl
theorem byt_mod (N c : Nat) : byt (N % 256 ^ c) c = byt N c := by unfold byt; rw [ofN_mod]
theorem byt_get (N c i : Nat) (h : i < c) : (byt N c)[i]? = some ((N / 256 ^ i % 256 : Nat) : Int) := by
  unfold byt; rw [List.getElem?_map, ofN_get c N i h]; simp
theorem byt_wf (N c : Nat) : ∀ x ∈ byt N c, 0 ≤ x ∧ x ≤ 255 := by
  intro x hx
  obtain ⟨b, _, rfl⟩ := List.mem_map.1 hx
  have := b.toNat_lt
  omega
theorem pow256 (c : Nat) : (256 : Nat) ^ c = 2 ^ (8 * c) := by rw [Nat.pow_mul]
/-- q behind len bits: the last byte alone is another. -/
theorem byt_put (N len c q : Nat) (h0 : N < 2 ^ len) (h1 : 8 * c ≤ len) (h2 : 2 ^ (len - 8 * c) * q + N / 256 ^ c < 256) :
    byt (N + 2 ^ len * q) (c + 1) = (byt N (c + 1)).set c ((N / 256 ^ c + 2 ^ (len - 8 * c) * q : Nat) : Int) := by
  have e : 2 ^ len = 256 ^ c * 2 ^ (len - 8 * c) := by rw [pow256, ← Nat.pow_add]; congr 1; omega
  have e1 : (N + 2 ^ len * q) / 256 ^ c = N / 256 ^ c + 2 ^ (len - 8 * c) * q := by
    rw [e, Nat.mul_assoc, Nat.add_mul_div_left _ _ (Nat.pow_pos (by decide))]
  have e2 : byt (N + 2 ^ len * q) c = byt N c := by
    rw [← byt_mod (N + 2 ^ len * q), ← byt_mod N, e, Nat.mul_assoc, Nat.add_mul_mod_self_left]
  rw [byt_snoc, byt_snoc, e1, e2, Nat.mod_eq_of_lt (by omega)]
  have : (byt N c ++ [((N / 256 ^ c % 256 : Nat) : Int)]).set c ((N / 256 ^ c + 2 ^ (len - 8 * c) * q : Nat) : Int) = (byt N c ++ [((N / 256 ^ c % 256 : Nat) : Int)]).set (byt N c).length ((N / 256 ^ c + 2 ^ (len - 8 * c) * q : Nat) : Int) := by rw [byt_len]
  rw [this]
  simp
/-- byte(rest << last), or'ed to a byte that has last bits: k bits more. -/
theorem or_byte (b rest last n k : Nat) (hl : last < 8) (hb : b < 2 ^ last) (hr : rest < 2 ^ n) (hn : n ≤ 32) (hk : k = min (8 - last) n) :
    Go.bits .or .u8 (b : Int) (IntKind.u64.wrap ((rest : Int) * 2 ^ last) % 256) = ((b + 2 ^ last * (rest % 2 ^ k) : Nat) : Int) ∧ 2 ^ last * (rest % 2 ^ k) + b < 256 := by
  have h8 : (2 : Nat) ^ last * 2 ^ (8 - last) = 256 := by rw [← Nat.pow_add]; rw [show last + (8 - last) = 8 by omega]
  have hrest : rest < 4294967296 := Nat.lt_of_lt_of_le hr (by calc 2 ^ n ≤ 2 ^ 32 := Nat.pow_le_pow_right (by decide) hn
    _ = 4294967296 := by decide)
  have hpl : (2 : Nat) ^ last ≤ 128 := by calc 2 ^ last ≤ 2 ^ 7 := Nat.pow_le_pow_right (by decide) (by omega)
    _ = 128 := by decide
  have hm : rest * 2 ^ last < 18446744073709551616 := by
    calc rest * 2 ^ last ≤ 4294967296 * 128 := Nat.mul_le_mul (by omega) hpl
    _ < _ := by decide
  have e1 : (rest : Int) * 2 ^ last = ((rest * 2 ^ last : Nat) : Int) := by simp
  rw [e1, u64_id (by omega) (by omega)]
  have e2 : ((rest * 2 ^ last : Nat) : Int) % 256 = ((rest * 2 ^ last % 256 : Nat) : Int) := by simp
  have e3 : rest * 2 ^ last % 256 = 2 ^ last * (rest % 2 ^ (8 - last)) := by rw [← h8, Nat.mul_comm rest, Nat.mul_mod_mul_left]
  have e4 : rest % 2 ^ (8 - last) = rest % 2 ^ k := by
    rcases Nat.le_total (8 - last) n with h | h
    · rw [hk, Nat.min_eq_left h]
    · rw [hk, Nat.min_eq_right h, Nat.mod_eq_of_lt hr, Nat.mod_eq_of_lt (Nat.lt_of_lt_of_le hr (Nat.pow_le_pow_right (by decide) h))]
  rw [e2, e3, e4]
  have hq : rest % 2 ^ k < 2 ^ (8 - last) := by rw [← e4]; exact Nat.mod_lt _ (Nat.pow_pos (by decide))
  have hbnd : 2 ^ last * (rest % 2 ^ k) + b < 256 := by
    have : 2 ^ last * (rest % 2 ^ k) + 2 ^ last ≤ 2 ^ last * 2 ^ (8 - last) := by rw [← Nat.mul_succ]; exact Nat.mul_le_mul_left _ hq
    omega
  refine ⟨?_, hbnd⟩
  rw [(bits_nat .u8 8 (by decide) (fun n h0 h1 => by simp [IntKind.wrap, IntKind.bits, IntKind.signed]; omega) b (2 ^ last * (rest % 2 ^ k)) (by omega) (by omega)).2, Nat.or_comm, Nat.add_comm, Nat.two_pow_add_eq_or_of_lt hb]
/-- The low n bits. -/
theorem and_low (v n : Nat) (hv : v < 4294967296) (hn : n ≤ 32) : Go.bits .and .u64 (v : Int) (IntKind.u64.wrap (IntKind.u64.wrap (2 ^ n) - 1)) = ((v % 2 ^ n : Nat) : Int) := by
  have hp : (2 : Nat) ^ n ≤ 4294967296 := by calc 2 ^ n ≤ 2 ^ 32 := Nat.pow_le_pow_right (by decide) hn
    _ = 4294967296 := by decide
  have hp0 : 0 < (2 : Nat) ^ n := Nat.pow_pos (by decide)
  have e1 : (2 : Int) ^ n = ((2 ^ n : Nat) : Int) := by simp
  rw [e1, u64_id (x := ((2 ^ n : Nat) : Int)) (by omega) (by omega)]
  have e2 : ((2 ^ n : Nat) : Int) - 1 = ((2 ^ n - 1 : Nat) : Int) := by omega
  rw [e2, u64_id (by omega) (by omega), (bits_nat .u64 64 (by decide) (fun n h0 h1 => u64_id h0 h1) v (2 ^ n - 1) (by omega) (by omega)).1, Nat.and_two_pow_sub_one_eq_mod]
theorem and7 (x : Nat) (hx : x < 4294967296) : Go.bits .and .i64 (x : Int) 7 = ((x % 8 : Nat) : Int) := by
  have h := (bits_nat .i64 63 (by decide) (fun n h0 h1 => by simp [IntKind.wrap, IntKind.bits, IntKind.signed]; omega) x 7 (by omega) (by omega)).1
  rw [show ((7 : Nat) : Int) = 7 from rfl] at h
  rw [h, show (7 : Nat) = 2 ^ 3 - 1 from rfl, Nat.and_two_pow_sub_one_eq_mod]
theorem add_bits (N len y d k : Nat) : N + 2 ^ len * (y % 2 ^ (d + k)) = N + 2 ^ len * (y % 2 ^ d) + 2 ^ (len + d) * (y / 2 ^ d % 2 ^ k) := by
  rw [Nat.pow_add 2 d k, Nat.mod_mul, Nat.mul_add, Nat.pow_add 2 len d, Nat.mul_assoc, Nat.add_assoc]
theorem lt_bits (M m q k : Nat) (h : M < 2 ^ m) : M + 2 ^ m * (q % 2 ^ k) < 2 ^ (m + k) := by
  have hq : q % 2 ^ k < 2 ^ k := Nat.mod_lt _ (Nat.pow_pos (by decide))
  calc M + 2 ^ m * (q % 2 ^ k) < 2 ^ m + 2 ^ m * (q % 2 ^ k) := by omega
    _ = 2 ^ m * (q % 2 ^ k + 1) := by rw [Nat.mul_succ, Nat.add_comm]
    _ ≤ 2 ^ m * 2 ^ k := Nat.mul_le_mul_left _ hq
    _ = 2 ^ (m + k) := (Nat.pow_add 2 m k).symm
end Go.Proofs.Ytlfcepdaicngjaa.Bn
