/- Plain Lean: what is written, numbers and bytes, is read as it was. -/
import Derived.Test.YtdbekngboogaoaaReader
import Derived.Test.YtdbekngboogaoaaBitWM
namespace Go.Proofs.Ytdbekngboogaoaa.Bk
set_option linter.unusedVariables false
set_option linter.unusedSimpArgs false
open Go Go.RowKit Go.Proofs.Ytdbekngboogaoaa.P Go.Proofs.Ytdbekngboogaoaa.B Go.Proofs.Ytdbekngboogaoaa.Bn Go.Proofs.Ytdbekngboogaoaa.Bw Go.Proofs.Ytdbekngboogaoaa.Rd Go.Proofs.YtdbekngboogaoaaW.PrintWords Go.Proofs.YtdbekngboogaoaaW.PrintLast Go.Proofs.YtdbekngboogaoaaW.PrintMore

/-- How many bits a thing has. -/
def cnt (x : S36) : Nat := 1 + (x.f1 % 32).toNat
theorem cnt_le (x : S36) : 1 ≤ cnt x ∧ cnt x ≤ 32 := by unfold cnt; omega
/-- One thing more, behind so many bits. -/
def stp (p : Nat × Nat) (x : S36) : Nat × Nat :=
  if Int.tmod x.f0 2 = 0 then (p.1 + 2 ^ p.2 * (x.f2.toNat % 2 ^ cnt x), p.2 + cnt x) else (p.1 + 2 ^ up8 p.2 * leN x.f3.data.toList, up8 p.2 + 8 * x.f3.size)
theorem up8_ge (n : Nat) : n ≤ up8 n ∧ up8 n ≤ n + 7 := by unfold up8; omega
theorem up8_8 (n : Nat) : 8 * (up8 n / 8) = up8 n := by unfold up8; omega
theorem pow_pos2 (n : Nat) : 0 < 2 ^ n := Nat.pow_pos (by decide)
theorem stp_ge (p : Nat × Nat) (x : S36) : p.2 ≤ (stp p x).2 := by
  unfold stp; have := up8_ge p.2; split <;> simp <;> omega
theorem stp_lt (p : Nat × Nat) (x : S36) (h : p.1 < 2 ^ p.2) : (stp p x).1 < 2 ^ (stp p x).2 := by
  unfold stp
  split
  · exact lt_bits _ _ _ _ h
  · have h1 : p.1 < 2 ^ up8 p.2 := Nat.lt_of_lt_of_le h (Nat.pow_le_pow_right (by decide) (up8_ge _).1)
    have h2 := leN_lt x.f3.data.toList
    rw [toList_length, pow256] at h2
    have h3 := lt_bits p.1 (up8 p.2) (leN x.f3.data.toList) (8 * x.f3.size) h1
    rwa [Nat.mod_eq_of_lt h2] at h3
theorem stp_mod (p : Nat × Nat) (x : S36) (h : p.1 < 2 ^ p.2) : (stp p x).1 % 2 ^ p.2 = p.1 := by
  unfold stp
  split
  · simp only [Nat.add_mul_mod_self_left]; exact Nat.mod_eq_of_lt h
  · obtain ⟨d, hd⟩ : ∃ d, up8 p.2 = p.2 + d := ⟨up8 p.2 - p.2, by have := up8_ge p.2; omega⟩
    simp only [hd, Nat.pow_add, Nat.mul_assoc, Nat.add_mul_mod_self_left]; exact Nat.mod_eq_of_lt h
theorem fold_mod (l : List S36) : ∀ p : Nat × Nat, p.1 < 2 ^ p.2 → (l.foldl stp p).1 % 2 ^ p.2 = p.1 ∧ p.2 ≤ (l.foldl stp p).2 ∧ (l.foldl stp p).1 < 2 ^ (l.foldl stp p).2 := by
  induction l with
  | nil => intro p h; exact ⟨Nat.mod_eq_of_lt h, Nat.le_refl _, h⟩
  | cons x l ih =>
    intro p h
    obtain ⟨h1, h2, h3⟩ := ih (stp p x) (stp_lt p x h)
    have h4 := stp_ge p x
    refine ⟨?_, Nat.le_trans h4 h2, h3⟩
    rw [List.foldl_cons]
    have h5 : 2 ^ p.2 ∣ 2 ^ (stp p x).2 := Nat.pow_dvd_pow 2 h4
    rw [← Nat.mod_mod_of_dvd _ h5, h1, stp_mod p x h]
def run (l : List S36) : Nat × Nat := l.foldl stp (0, 0)
theorem run_succ (l : List S36) (i : Nat) (h : i < l.length) : run (l.take (i + 1)) = stp (run (l.take i)) l[i] := by
  unfold run
  rw [List.take_succ_eq_append_getElem h, List.foldl_append]
  rfl
theorem run_lt (l : List S36) : (run l).1 < 2 ^ (run l).2 := (fold_mod l (0, 0) (by decide)).2.2
theorem run_mod (l : List S36) (i : Nat) : (run l).1 % 2 ^ (run (l.take i)).2 = (run (l.take i)).1 ∧ (run (l.take i)).2 ≤ (run l).2 := by
  have h := fold_mod (l.drop i) (run (l.take i)) (run_lt _)
  have e : (l.drop i).foldl stp (run (l.take i)) = run l := by
    unfold run
    rw [← List.foldl_append, List.take_append_drop]
  rw [e] at h
  exact ⟨h.1, h.2.1⟩
theorem stp_len (p : Nat × Nat) (x : S36) (h : x.f3.size ≤ 500) : (stp p x).2 ≤ p.2 + 5000 := by
  unfold stp
  have h1 := cnt_le x
  have h2 := up8_ge p.2
  split <;> simp only <;> omega
theorem run_len (l : List S36) (hl : ∀ x ∈ l, x.f3.size ≤ 500) : ∀ i, (run (l.take i)).2 ≤ 5000 * i := by
  intro i
  induction i with
  | zero => simp [run]
  | succ i ih =>
    by_cases h : i < l.length
    · rw [run_succ l i h]
      have := stp_len (run (l.take i)) l[i] (hl _ (List.getElem_mem h))
      omega
    · rw [List.take_of_length_le (by omega)]
      rw [List.take_of_length_le (by omega)] at ih
      omega

theorem read_ok (s : ByteArray) (a n : Nat) (hs : s.size ≤ 1000000) (hn : n ≤ 32) (hin : a + n ≤ 8 * s.size) : bits_Reader_Read.f 50 s a 0 n = some (((num s a n : Nat) : Int), s, ((a + n : Nat) : Int), 0) := by
  have hl := left_of (s := s) (a := (a : Int)) ⟨hs, a, rfl, by omega⟩
  unfold bits_Reader_Read.f
  rw [if_pos rfl, if_neg (by omega), decide_eq_false (by omega : ¬ (n : Int) > 32), show (50 : Nat) = 49 + 1 from rfl, bits_Reader_Read.j0, if_neg (by decide)]
  unfold bits_Reader_left.f
  rw [Option.bind_some]
  dsimp only
  rw [hl, if_neg (by omega), bits_in s a n 0 hs (by omega) (by omega) 49 (by omega), Option.bind_some]
  dsimp only
  rw [wrap_id (by omega) (by omega), Int.natCast_add]
theorem bytes_ok (s : ByteArray) (a n : Nat) (hs : s.size ≤ 1000000) (hin : up8 a + 8 * n ≤ 8 * s.size) : bits_Reader_Bytes.f s a 0 n = some (s.extract (up8 a / 8) (up8 a / 8 + n), s, ((up8 a + 8 * n : Nat) : Int), 0) := by
  have hu := up8_ge a
  have h8 := up8_8 a
  have hl := left_of (s := s) (a := ((up8 a : Nat) : Int)) ⟨hs, up8 a, rfl, by omega⟩
  have ha : bits_Reader_Align.f s a 0 = some (s, ((up8 a : Nat) : Int), 0) := by
    unfold bits_Reader_Align.f
    rw [if_pos rfl, wrap_id (by omega) (by omega), show (a : Int) + 7 = ((a + 7 : Nat) : Int) by omega, andNot7 (a + 7) (by omega)]
    unfold up8
    rw [Nat.mul_comm]
  unfold bits_Reader_Bytes.f
  rw [ha, Option.bind_some]
  dsimp only
  rw [if_pos rfl, if_neg (by omega)]
  unfold bits_Reader_left.f
  rw [Option.bind_some]
  dsimp only
  obtain ⟨c, hc⟩ : ∃ c, up8 a / 8 = c := ⟨_, rfl⟩
  rw [hc] at h8 ⊢
  rw [← h8] at hl hin ⊢
  rw [hl, show ((8 * c : Nat) : Int) / 8 = (c : Int) by omega, show (8 * (s.size : Int) - ((8 * c : Nat) : Int)) / 8 = (s.size : Int) - (c : Int) by omega, if_neg (by omega), wrap_id (x := (c : Int) + (n : Int)) (by omega) (by omega), if_pos (by omega), if_pos (by omega), if_pos (by omega),
    wrap_id (x := (n : Int) * 8) (by omega) (by omega), wrap_id (by omega) (by omega), show ((c : Int) + (n : Int)).toNat = c + n by omega, Int.toNat_natCast, show ((8 * c : Nat) : Int) + (n : Int) * 8 = ((8 * c + 8 * n : Nat) : Int) by omega]
/-- The text that a writer has written. -/
def txt (p : Nat × Nat) : ByteArray := ⟨(ofN ((p.2 + 7) / 8) p.1).toArray⟩
theorem txt_size (p : Nat × Nat) : (txt p).size = (p.2 + 7) / 8 := by unfold txt; simp [ByteArray.size, ofN_length]
theorem txt_leN (p : Nat × Nat) (h : p.1 < 2 ^ p.2) : leN (txt p).data.toList = p.1 := by
  unfold txt
  rw [List.toList_toArray, leN_ofN, pow256]
  exact Nat.mod_eq_of_lt (Nat.lt_of_lt_of_le h (Nat.pow_le_pow_right (by decide) (by omega)))
theorem byteArray_ext {a b : ByteArray} (h : a.data.toList = b.data.toList) : a = b := by
  cases a; cases b; simp at h; rw [h]
theorem item (l : List S36) (hl : ∀ x ∈ l, x.f3.size ≤ 500) (h60 : l.length ≤ 60) (i : Nat) (hi : i < l.length) :
    (Int.tmod l[i].f0 2 = 0 → bits_Reader_Read.f 50 (txt (run l)) (((run (l.take i)).2 : Nat) : Int) 0 ((cnt l[i] : Nat) : Int) = some (((l[i].f2.toNat % 2 ^ cnt l[i] : Nat) : Int), txt (run l), (((run (l.take (i + 1))).2 : Nat) : Int), 0))
    ∧ (Int.tmod l[i].f0 2 ≠ 0 → bits_Reader_Bytes.f (txt (run l)) (((run (l.take i)).2 : Nat) : Int) 0 ((l[i].f3.size : Nat) : Int) = some (l[i].f3, txt (run l), (((run (l.take (i + 1))).2 : Nat) : Int), 0)) := by
  have hlen := run_len l hl l.length
  rw [List.take_length] at hlen
  have hsz := txt_size (run l)
  have hN := txt_leN (run l) (run_lt l)
  have hm := run_mod l (i + 1)
  have hs := run_succ l i hi
  have hlt := run_lt (l.take i)
  obtain ⟨p, hp⟩ : ∃ p, run (l.take i) = p := ⟨_, rfl⟩
  obtain ⟨x, hx⟩ : ∃ x, l[i] = x := ⟨_, rfl⟩
  rw [hp, hx] at hs
  rw [hp] at hlt
  rw [hs] at hm ⊢
  rw [hp, hx]
  have hc := cnt_le x
  constructor
  · intro he
    have e1 : stp p x = (p.1 + 2 ^ p.2 * (x.f2.toNat % 2 ^ cnt x), p.2 + cnt x) := by unfold stp; rw [if_pos he]
    rw [e1] at hm ⊢
    simp only at hm
    rw [read_ok _ _ _ (by omega) (by omega) (by omega)]
    have e2 : num (txt (run l)) p.2 (cnt x) = x.f2.toNat % 2 ^ cnt x := by
      unfold num
      rw [hN, ← Nat.mod_mul_right_div_self, ← Nat.pow_add, hm.1, Nat.add_mul_div_left _ _ (pow_pos2 _), Nat.div_eq_of_lt hlt, Nat.zero_add]
    rw [e2]
  · intro he
    have e1 : stp p x = (p.1 + 2 ^ up8 p.2 * leN x.f3.data.toList, up8 p.2 + 8 * x.f3.size) := by unfold stp; rw [if_neg he]
    rw [e1] at hm ⊢
    simp only at hm
    rw [bytes_ok _ _ _ (by omega) (by omega)]
    have h8 := up8_8 p.2
    have hu := up8_ge p.2
    have hlt2 : p.1 < 2 ^ up8 p.2 := Nat.lt_of_lt_of_le hlt (Nat.pow_le_pow_right (by decide) hu.1)
    have e2 : (txt (run l)).extract (up8 p.2 / 8) (up8 p.2 / 8 + x.f3.size) = x.f3 := by
      apply byteArray_ext
      obtain ⟨L, hL⟩ : ∃ L, (txt (run l)).data.toList = L := ⟨_, rfl⟩
      obtain ⟨c, hcc⟩ : ∃ c, up8 p.2 / 8 = c := ⟨_, rfl⟩
      rw [hL] at hN
      rw [hcc] at h8 ⊢
      have hLl : L.length = (txt (run l)).size := by rw [← hL]; simp
      have e3 : ((txt (run l)).extract c (c + x.f3.size)).data.toList = (L.drop c).take x.f3.size := by
        rw [← hL]
        simp [List.extract_eq_take_drop]
      rw [e3]
      have e4 : leN ((L.drop c).take x.f3.size) = leN x.f3.data.toList := by
        have k1 : leN L = leN (L.take c) + 256 ^ c * (leN ((L.drop c).take x.f3.size) + 256 ^ x.f3.size * leN ((L.drop c).drop x.f3.size)) := by
          have a1 : leN L = leN (L.take c ++ ((L.drop c).take x.f3.size ++ (L.drop c).drop x.f3.size)) := by rw [List.take_append_drop, List.take_append_drop]
          rw [a1, leN_append, leN_append, List.length_take, List.length_take, List.length_drop, Nat.min_eq_left (by omega), Nat.min_eq_left (by omega)]
        have k2 := leN_lt (L.take c)
        rw [List.length_take, Nat.min_eq_left (by omega)] at k2
        have k3 := leN_lt ((L.drop c).take x.f3.size)
        rw [List.length_take, List.length_drop, Nat.min_eq_left (by omega)] at k3
        have k4 := hm.1
        rw [← hN, Nat.pow_add, ← h8, ← pow256, ← pow256, k1] at k4
        have k5 : (leN (L.take c) + 256 ^ c * (leN ((L.drop c).take x.f3.size) + 256 ^ x.f3.size * leN ((L.drop c).drop x.f3.size))) % (256 ^ c * 256 ^ x.f3.size) = leN (L.take c) + 256 ^ c * leN ((L.drop c).take x.f3.size) := by
          rw [Nat.mod_mul, Nat.add_mul_mod_self_left, Nat.mod_eq_of_lt k2, Nat.add_mul_div_left _ _ (Nat.pow_pos (by decide)), Nat.div_eq_of_lt k2, Nat.zero_add, Nat.add_mul_mod_self_left, Nat.mod_eq_of_lt k3]
        rw [k5] at k4
        have k6 : p.1 < 256 ^ c := by rw [pow256, h8]; exact hlt2
        have k7 := congrArg (fun z => z / 256 ^ c) k4
        simp only [Nat.add_mul_div_left _ _ (Nat.pow_pos (show 0 < 256 by decide)), Nat.div_eq_of_lt k2, Nat.div_eq_of_lt k6, Nat.zero_add] at k7
        exact k7
      have e5 := ofN_leN ((L.drop c).take x.f3.size)
      have e6 := ofN_leN x.f3.data.toList
      rw [List.length_take, List.length_drop, Nat.min_eq_left (by omega), e4] at e5
      rw [toList_length] at e6
      rw [← e5, e6]
    rw [e2]
end Go.Proofs.Ytdbekngboogaoaa.Bk
