/- What the numbers' functions (of the program and of the reference) come to: plain Lean. -/
import Derived.Test.YtegdnkhpkealoaaBytes
import Derived.Test.YtegdnkhpkealoaaPx2
import Derived.Test.YtegdnkhpkealoaaPx3
import Derived.Test.YtegdnkhpkealoaaPx4
import Derived.Test.YtegdnkhpkealoaaPx6
import Derived.Test.YtegdnkhpkealoaaPx7
import Derived.Test.YtegdnkhpkealoaaPx8
namespace Go.Proofs.Ytegdnkhpkealoaa.Num
set_option linter.unusedVariables false
set_option linter.unusedSimpArgs false
open Go Go.RowKit Go.Proofs.Ytegdnkhpkealoaa.P Go.Proofs.Ytegdnkhpkealoaa.B Go.Proofs.YtegdnkhpkealoaaW.PrintWords Go.Proofs.YtegdnkhpkealoaaW.PrintLast Go.Proofs.YtegdnkhpkealoaaW.PrintMore

theorem number_loop (s : ByteArray) (hs : s.size ≤ 8) : ∀ (d k i : Nat), i + d = s.size → d < k →
    cursor_number.l0 k s ((leN (s.data.toList.take i) : Nat) : Int) (s.size : Int) (i : Int) = some ((leN s.data.toList : Nat) : Int) := by
  have hl : s.data.toList.length = s.size := toList_length s
  intro d
  induction d with
  | zero =>
    intro k i hd hk
    obtain ⟨k, rfl⟩ : ∃ m, k = m + 1 := ⟨k - 1, by omega⟩
    simp only [cursor_number.l0]
    rw [if_neg (by omega), List.take_of_length_le (by omega)]
  | succ d ih =>
    intro k i hd hk
    obtain ⟨k, rfl⟩ : ∃ m, k = m + 1 := ⟨k - 1, by omega⟩
    have hlt : i < s.data.toList.length := by omega
    have h8 : wrap64 (8 * (i : Int)) = ((8 * i : Nat) : Int) := by rw [wrap_id (by omega) (by omega)]; omega
    have hi1 : wrap64 ((i : Int) + 1) = ((i + 1 : Nat) : Int) := by rw [wrap_id (by omega) (by omega)]; omega
    have hb := bt_nat s i hlt
    have ht := leN_lt (s.data.toList.take i)
    rw [List.length_take, Nat.min_eq_left (by omega)] at ht
    simp only [cursor_number.l0]
    rw [if_pos (by omega), if_pos (by omega), if_pos (by omega), h8, if_pos (by omega), hi1, hb, or_shl _ _ i (by omega) ht (UInt8.toNat_lt _)]
    have e : leN (s.data.toList.take (i + 1)) = leN (s.data.toList.take i) + 256 ^ i * (s.data.toList[i]).toNat := by
      rw [List.take_succ_eq_append_getElem hlt, leN_append, List.length_take, Nat.min_eq_left (by omega)]
      simp [leN]
    rw [← e]
    exact ih k (i + 1) (by omega) (by omega)

theorem number_eq (s : ByteArray) (hs : s.size ≤ 8) (k : Nat) (hk : 8 < k) : cursor_number.f k s = some ((leN s.data.toList : Nat) : Int) := by
  have := number_loop s hs s.size k 0 (by omega) (by omega)
  simpa [cursor_number.f, leN] using this

theorem ref_number_loop (s : ByteArray) (hs : s.size ≤ 8) : ∀ (i k : Nat), i ≤ s.size → i < k →
    portmanteauref01_Number.l0 k s ((leN (s.data.toList.drop i) : Nat) : Int) ((i : Int) - 1) = some ((leN s.data.toList : Nat) : Int) := by
  have hl : s.data.toList.length = s.size := toList_length s
  intro i
  induction i with
  | zero =>
    intro k hd hk
    obtain ⟨k, rfl⟩ : ∃ m, k = m + 1 := ⟨k - 1, by omega⟩
    simp only [portmanteauref01_Number.l0]
    rw [if_neg (by omega)]
    simp
  | succ i ih =>
    intro k hd hk
    obtain ⟨k, rfl⟩ : ∃ m, k = m + 1 := ⟨k - 1, by omega⟩
    have hlt : i < s.data.toList.length := by omega
    have hb := bt_nat s i hlt
    have ht := leN_lt (s.data.toList.drop i)
    have hp : 256 ^ (s.data.toList.drop i).length ≤ 256 ^ 8 := Nat.pow_le_pow_right (by decide) (by simp; omega)
    have e : leN (s.data.toList.drop i) = (s.data.toList[i]).toNat + 256 * leN (s.data.toList.drop (i + 1)) := by
      rw [List.drop_eq_getElem_cons hlt]; rfl
    have hb2 := UInt8.toNat_lt (s.data.toList[i])
    simp only [portmanteauref01_Number.l0]
    rw [show (((i + 1 : Nat) : Int) - 1) = (i : Int) by omega, if_pos (by omega), if_pos (by omega), if_pos (by omega), hb, wrap_id (by omega) (by omega),
      u64_id (x := ((s.data.toList[i]).toNat : Int)) (by omega) (by omega), u64_id (x := ((leN (s.data.toList.drop (i + 1)) : Nat) : Int) * 256) (by omega) (by omega), u64_id (by omega) (by omega)]
    rw [show ((leN (s.data.toList.drop (i + 1)) : Nat) : Int) * 256 + ((s.data.toList[i]).toNat : Int) = ((leN (s.data.toList.drop i) : Nat) : Int) by omega]
    exact ih k (by omega) (by omega)

theorem ref_number_eq (s : ByteArray) (hs : s.size ≤ 8) (k : Nat) (hk : 8 < k) : portmanteauref01_Number.f k s = some ((leN s.data.toList : Nat) : Int) := by
  have := ref_number_loop s hs s.size k (by omega) (by omega)
  rw [List.drop_of_length_le (by simp)] at this
  unfold portmanteauref01_Number.f
  rw [wrap_id (by omega) (by omega)]
  exact this

/-- The lowest so many bytes, as both texts have them. -/
def ofI (n : Nat) (c : Int) : List UInt8 := ofN (min c.toNat 64) n
def strN (l : List UInt8) : ByteArray := ⟨l.toArray⟩
theorem strN_eq (xs : List Int) (l : List UInt8) (h : xs = l.map fun b => (b.toNat : Int)) : strOfNums xs = strN l := by
  subst h
  simp [strOfNums, strN, List.map_map, Function.comp_def]

theorem ref_of_loop (n c : Nat) (a1 : Int) (hc : a1.toNat = c) : ∀ (d k i m : Nat) (xs : List Int), i + d = min c 64 → m = n / 256 ^ i → n < 2 ^ 64 → xs = (ofN i n).map (fun b => (b.toNat : Int)) → d < k →
    portmanteauref01_Of.l0 k (m : Int) a1 xs (i : Int) = some (strN (ofN (min c 64) n)) := by
  intro d
  induction d with
  | zero =>
    intro k i m xs hd hm hn hx hk
    obtain ⟨k, rfl⟩ : ∃ m, k = m + 1 := ⟨k - 1, by omega⟩
    have hs : strOfNums xs = strN (ofN (min c 64) n) := by
      rw [show min c 64 = i by omega]; exact strN_eq _ _ hx
    simp only [portmanteauref01_Of.l0]
    by_cases h1 : (i : Int) < a1
    · rw [if_pos h1, if_neg (by omega), hs]
    · rw [if_neg h1, hs]
  | succ d ih =>
    intro k i m xs hd hm hn hx hk
    obtain ⟨k, rfl⟩ : ∃ m, k = m + 1 := ⟨k - 1, by omega⟩
    have hlen : xs.length = i := by rw [hx]; simp [ofN_length]
    have hm2 : m < 18446744073709551616 := by
      have : n / 256 ^ i ≤ n := Nat.div_le_self _ _
      omega
    simp only [portmanteauref01_Of.l0]
    rw [if_pos (by omega), if_pos (by omega), if_pos (by omega), wrap_id (by omega) (by omega)]
    have e1 : IntKind.u64.wrap (Int.tdiv (m : Int) 256) = ((m / 256 : Nat) : Int) := by
      rw [Int.tdiv_eq_ediv_of_nonneg (by omega), u64_id (by omega) (by omega)]
      simp
    have e2 : Int.tmod (m : Int) 256 % 256 = ((m % 256 : Nat) : Int) := by
      rw [Int.tmod_eq_emod_of_nonneg (by omega)]
      omega
    rw [e1, e2]
    refine ih k (i + 1) (m / 256) _ (by omega) ?_ hn ?_ (by omega)
    · rw [hm, Nat.div_div_eq_div_mul, Nat.pow_succ]
    · rw [hx]
      have : ofN (i + 1) n = ofN i n ++ [UInt8.ofNat (n / 256 ^ i % 256)] := by
        apply List.ext_getElem?
        intro j
        by_cases h1 : j < i
        · rw [List.getElem?_append_left (by simpa [ofN_length] using h1), ofN_get _ _ _ (by omega), ofN_get _ _ _ h1]
        · by_cases h2 : j = i
          · subst h2
            rw [List.getElem?_append_right (by simp [ofN_length]), ofN_get _ _ _ (by omega)]
            simp [ofN_length]
          · rw [List.getElem?_eq_none (by simp [ofN_length]; omega), List.getElem?_eq_none (by simp [ofN_length]; omega)]
      rw [this, List.map_append, ← hm]
      simp

theorem ref_of_eq (n : Nat) (hn : n < 2 ^ 64) (a1 : Int) (k : Nat) (hk : 64 < k) : portmanteauref01_Of.f k (n : Int) a1 = some (strN (ofI n a1)) := by
  unfold portmanteauref01_Of.f ofI
  exact ref_of_loop n a1.toNat a1 rfl (min a1.toNat 64) k 0 n [] (by omega) (by simp) hn rfl (by omega)

theorem of_loop (n c : Nat) (hn : n < 2 ^ 64) : ∀ (d k i : Nat) (xs : List Int), i + d = min c 8 → xs = (ofN i n).map (fun b => (b.toNat : Int)) ++ List.replicate (c - i) 0 → d < k →
    cursor_Of.l0 k (n : Int) xs ((min c 8 : Nat) : Int) (i : Int) = some (strN (ofN c n)) := by
  intro d
  induction d with
  | zero =>
    intro k i xs hd hx hk
    obtain ⟨k, rfl⟩ : ∃ m, k = m + 1 := ⟨k - 1, by omega⟩
    have hs : strOfNums xs = strN (ofN c n) := by
      apply strN_eq
      rw [hx]
      apply List.ext_getElem?
      intro j
      by_cases h1 : j < i
      · rw [List.getElem?_append_left (by simpa [ofN_length] using h1)]
        simp only [List.getElem?_map]
        rw [ofN_get _ _ _ h1, ofN_get _ _ _ (by omega)]
      · rw [List.getElem?_append_right (by simp [ofN_length]; omega)]
        by_cases h2 : j < c
        · simp only [List.getElem?_map]
          rw [ofN_get _ _ _ h2]
          have : n / 256 ^ j = 0 := by
            apply Nat.div_eq_of_lt
            have : 256 ^ 8 ≤ 256 ^ j := Nat.pow_le_pow_right (by decide) (by omega)
            omega
          simp only [Option.map_some, this, List.length_map, ofN_length, List.getElem?_replicate]
          rw [if_pos (by omega)]
          rfl
        · rw [List.getElem?_eq_none (by simp [ofN_length]; omega), List.getElem?_eq_none (by simp [ofN_length]; omega)]
    simp only [cursor_Of.l0]
    rw [if_neg (by omega), hs]
  | succ d ih =>
    intro k i xs hd hx hk
    obtain ⟨k, rfl⟩ : ∃ m, k = m + 1 := ⟨k - 1, by omega⟩
    have hlen : xs.length = c := by rw [hx]; simp [ofN_length]; omega
    have h8 : wrap64 (8 * (i : Int)) = ((8 * i : Nat) : Int) := by rw [wrap_id (by omega) (by omega)]; omega
    simp only [cursor_Of.l0]
    rw [if_pos (by omega), h8, if_pos (by omega), if_pos (by omega), if_pos (by omega), wrap_id (by omega) (by omega)]
    have e1 : shr .u64 (n : Int) ((8 * i : Nat) : Int) % 256 = ((n / 256 ^ i % 256 : Nat) : Int) := by
      unfold shr
      rw [Int.toNat_natCast, Nat.min_eq_left (by simp [IntKind.bits]; omega), show (256 : Nat) ^ i = 2 ^ (8 * i) by rw [Nat.pow_mul]]
      simp
    rw [e1, Int.toNat_natCast]
    refine ih k (i + 1) _ (by omega) ?_ (by omega)
    rw [hx]
    apply List.ext_getElem?
    intro j
    rw [List.getElem?_set]
    by_cases h1 : j < i
    · rw [if_neg (by omega), List.getElem?_append_left (by simpa [ofN_length] using h1), List.getElem?_append_left (by simp [ofN_length]; omega)]
      simp only [List.getElem?_map]
      rw [ofN_get _ _ _ h1, ofN_get _ _ _ (by omega)]
    · by_cases h2 : i = j
      · subst h2
        rw [if_pos rfl, if_pos (by simp [ofN_length]; omega), List.getElem?_append_left (by simp [ofN_length])]
        simp only [List.getElem?_map]
        rw [ofN_get _ _ _ (by omega)]
        simp
      · rw [if_neg h2, List.getElem?_append_right (by simp [ofN_length]; omega), List.getElem?_append_right (by simp [ofN_length]; omega)]
        simp only [List.length_map, ofN_length, List.getElem?_replicate]
        by_cases h3 : j < c
        · rw [if_pos (by omega), if_pos (by omega)]
        · rw [if_neg (by omega), if_neg (by omega)]

theorem of_eq (n : Nat) (hn : n < 2 ^ 64) (a1 : Int) (k : Nat) (hk : 64 < k) : cursor_Of.f k (n : Int) a1 = some (strN (ofI n a1)) := by
  have hm : mn (mx a1 0) 64 = ((min a1.toNat 64 : Nat) : Int) := by unfold mn mx; omega
  unfold cursor_Of.f ofI
  rw [hm, if_pos (by omega), if_pos (by omega)]
  simp only [Option.bind_some, List.length_replicate, Int.toNat_natCast]
  have hm2 : mn ((min a1.toNat 64 : Nat) : Int) 8 = ((min (min a1.toNat 64) 8 : Nat) : Int) := by unfold mn; omega
  rw [hm2]
  exact of_loop n (min a1.toNat 64) hn (min (min a1.toNat 64) 8) k 0 _ (by omega) (by simp [ofN]) (by omega)

theorem two_eq (n : Nat) (hn : n < 2 ^ 16) (k : Nat) (hk : 64 < k) : cursor_Two.f k (n : Int) = some (strN (ofN 2 n)) := by
  unfold cursor_Two.f
  rw [u64_id (by omega) (by omega), of_eq n (by omega) 2 k hk]; rfl
theorem four_eq (n : Nat) (hn : n < 2 ^ 32) (k : Nat) (hk : 64 < k) : cursor_Four.f k (n : Int) = some (strN (ofN 4 n)) := by
  unfold cursor_Four.f
  rw [u64_id (by omega) (by omega), of_eq n (by omega) 4 k hk]; rfl
theorem eight_eq (n : Nat) (hn : n < 2 ^ 64) (k : Nat) (hk : 64 < k) : cursor_Eight.f k (n : Int) = some (strN (ofN 8 n)) := by
  unfold cursor_Eight.f
  rw [of_eq n hn 8 k hk]; rfl
end Go.Proofs.Ytegdnkhpkealoaa.Num
