import Derived.Test.YtnjfddmajiihjaaMg1
import Derived.Test.YtnjfddmajiihjaaPx10
import Derived.Test.YtnjfddmajiihjaaPx9
import Derived.Test.YtnjfddmajiihjaaPx1
import Derived.Test.YtnjfddmajiihjaaPx3
import Derived.Lib.AppendStr
import Derived.Test.YtnjfddmajiihjaaPx11
import Derived.Test.YtnjfddmajiihjaaWMore
import Derived.ChangeArms
import Derived.DataReads
import Derived.SizedLaws
import Derived.WideShapes
namespace Go.Proofs.Ytnjfddmajiihjaa.Num
set_option linter.unusedVariables false
set_option linter.unusedSimpArgs false
open Go Go.RowKit Go.Proofs.Ytnjfddmajiihjaa.P Go.Proofs.Ytnjfddmajiihjaa.B Go.Proofs.YtnjfddmajiihjaaW.PrintWords Go.Proofs.YtnjfddmajiihjaaW.PrintLast Go.Proofs.YtnjfddmajiihjaaW.PrintMore
theorem number_loop (s : ByteArray) (hs : s.size ≤ 8) : ∀ (d k i : Nat), i + d = s.size → d < k →
    cursor_number.l0 k s ((leN (s.data.toList.take i) : Nat) : Int) (s.size : Int) (i : Int) = some ((leN s.data.toList : Nat) : Int) := by
  have hl : s.data.toList.length = s.size := toList_length s
  intro d
  induction d with
  | zero =>
    intro k i hd hk
    obtain ⟨k, rfl⟩ : ∃ m, k = m + 1 := ⟨k - 1, by omega⟩
    simp only [cursor_number.l0]
    rw [if_neg (by omega), List.take_of_length_le (by omega)]
  | succ d ih =>
    intro k i hd hk
    obtain ⟨k, rfl⟩ : ∃ m, k = m + 1 := ⟨k - 1, by omega⟩
    have hlt : i < s.data.toList.length := by omega
    have h8 : wrap64 (8 * (i : Int)) = ((8 * i : Nat) : Int) := by rw [wrap_id (by omega) (by omega)]; omega
    have hi1 : wrap64 ((i : Int) + 1) = ((i + 1 : Nat) : Int) := by rw [wrap_id (by omega) (by omega)]; omega
    have hb := bt_nat s i hlt
    have ht := leN_lt (s.data.toList.take i)
    rw [List.length_take, Nat.min_eq_left (by omega)] at ht
    simp only [cursor_number.l0]
    rw [if_pos (by omega), if_pos (by omega), if_pos (by omega), h8, if_pos (by omega), hi1, hb, or_shl _ _ i (by omega) ht (UInt8.toNat_lt _)]
    have e : leN (s.data.toList.take (i + 1)) = leN (s.data.toList.take i) + 256 ^ i * (s.data.toList[i]).toNat := by
      rw [List.take_succ_eq_append_getElem hlt, leN_append, List.length_take, Nat.min_eq_left (by omega)]
      simp [leN]
    rw [← e]
    exact ih k (i + 1) (by omega) (by omega)
theorem number_eq (s : ByteArray) (hs : s.size ≤ 8) (k : Nat) (hk : 8 < k) : cursor_number.f k s = some ((leN s.data.toList : Nat) : Int) := by
  have := number_loop s hs s.size k 0 (by omega) (by omega)
  simpa [cursor_number.f, leN] using this
end Go.Proofs.Ytnjfddmajiihjaa.Num
namespace Go.Proofs.Ytnjfddmajiihjaa.Cur
set_option linter.unusedVariables false
set_option linter.unusedSimpArgs false
open Go Go.RowKit Go.Proofs.Ytnjfddmajiihjaa.P Go.Proofs.Ytnjfddmajiihjaa.B Go.Proofs.Ytnjfddmajiihjaa.Num Go.Proofs.YtnjfddmajiihjaaW.PrintWords Go.Proofs.YtnjfddmajiihjaaW.PrintLast Go.Proofs.YtnjfddmajiihjaaW.PrintMore
theorem strN_data (l : List UInt8) : (strN l).data.toList = l := rfl
theorem strN_size (l : List UInt8) : (strN l).size = l.length := by simp [strN, ByteArray.size]
theorem ext_list {s t : ByteArray} (h : s.data.toList = t.data.toList) : s = t := ByteArray.ext (Array.toList_inj.1 h)
theorem extract_list (s : ByteArray) (i j : Nat) : (s.extract i j).data.toList = (s.data.toList.take j).drop i := by
  simp [List.extract_eq_take_drop, List.drop_take]
theorem extract_strN {s : ByteArray} {pre mid post : List UInt8} (h : s.data.toList = pre ++ mid ++ post) : s.extract pre.length (pre.length + mid.length) = strN mid := by
  apply ext_list
  rw [extract_list, h, strN_data, List.append_assoc, List.take_append]
  simp
theorem number_strN (l : List UInt8) (h : l.length ≤ 8) (k : Nat) (hk : 8 < k) : cursor_number.f k (strN l) = some ((leN l : Nat) : Int) := by
  have := number_eq (strN l) (by rw [strN_size]; exact h) k hk
  rwa [strN_data] at this
section
variable {s : ByteArray} {at_ n : Int} {pre mid post : List UInt8}
theorem take_list (hs : s.size ≤ 140737488351232) (h : s.data.toList = pre ++ mid ++ post) (ha : at_ = pre.length) (hn : n = mid.length) :
    cursor_Cursor_Take.f s at_ 0 n = some (strN mid, s, (((pre ++ mid).length : Nat) : Int), 0) := by
  have hl : s.size = pre.length + mid.length + post.length := by rw [← toList_length s, h]; simp; omega
  unfold cursor_Cursor_Take.f
  rw [if_pos rfl, if_neg (by omega), wrap_id (x := (s.size : Int) - at_) (by omega) (by omega), if_neg (by omega), wrap_id (x := at_ + n) (by omega) (by omega), if_pos (by omega), if_pos (by omega), if_pos (by omega)]
  have e1 : at_.toNat = pre.length := by omega
  have e2 : (at_ + n).toNat = pre.length + mid.length := by omega
  rw [e1, e2, extract_strN h]
  simp only [Option.some.injEq, Prod.mk.injEq, and_true, true_and]
  simp; omega
theorem take_short (hs : s.size ≤ 140737488351232) (ha : 0 ≤ at_) (ha2 : at_ ≤ s.size) (hn : n < 0 ∨ (s.size : Int) - at_ < n) : cursor_Cursor_Take.f s at_ 0 n = some (strN [], s, at_, 3) := by
  unfold cursor_Cursor_Take.f
  rw [if_pos rfl]
  by_cases h0 : n < 0
  · rw [if_pos h0]; rfl
  · rw [if_neg h0, wrap_id (x := (s.size : Int) - at_) (by omega) (by omega), if_pos (by omega)]; rfl
theorem take_bad {e : Int} (he : e ≠ 0) : cursor_Cursor_Take.f s at_ e n = some (strN [], s, at_, e) := by
  unfold cursor_Cursor_Take.f
  rw [if_neg he]; rfl
end
end Go.Proofs.Ytnjfddmajiihjaa.Cur
namespace Go.Proofs.Ytnjfddmajiihjaa.Cur
set_option linter.unusedVariables false
set_option linter.unusedSimpArgs false
open Go Go.RowKit Go.Proofs.Ytnjfddmajiihjaa.P Go.Proofs.Ytnjfddmajiihjaa.B Go.Proofs.Ytnjfddmajiihjaa.Num Go.Proofs.YtnjfddmajiihjaaW.PrintWords Go.Proofs.YtnjfddmajiihjaaW.PrintLast Go.Proofs.YtnjfddmajiihjaaW.PrintMore
def At (s : ByteArray) (a : Int) (R : List UInt8) : Prop := s.size ≤ 140737488351232 ∧ ∃ pre : List UInt8, s.data.toList = pre ++ R ∧ a = pre.length
theorem At.start (s : ByteArray) (hs : s.size ≤ 140737488351232) : At s 0 s.data.toList := ⟨hs, [], rfl, rfl⟩
theorem At.size {s : ByteArray} {a : Int} {R : List UInt8} (h : At s a R) : (s.size : Int) = a + R.length := by
  obtain ⟨_, pre, he, rfl⟩ := h
  rw [← toList_length s, he]; simp
theorem At.nn {s : ByteArray} {a : Int} {R : List UInt8} (h : At s a R) : 0 ≤ a := by
  obtain ⟨_, pre, he, rfl⟩ := h
  omega
theorem At.on {s : ByteArray} {a : Int} {m R : List UInt8} (h : At s a (m ++ R)) : At s (a + m.length) R := by
  obtain ⟨hs, pre, he, rfl⟩ := h
  exact ⟨hs, pre ++ m, by rw [he]; simp, by simp⟩
theorem take_at {s : ByteArray} {a n : Int} {m R : List UInt8} (h : At s a (m ++ R)) (hn : n = m.length) : cursor_Cursor_Take.f s a 0 n = some (strN m, s, a + m.length, 0) := by
  obtain ⟨hs, pre, he, rfl⟩ := h
  rw [take_list (pre := pre) (mid := m) (post := R) hs (by rw [he]; simp) rfl hn]
  simp
theorem take_fail {s : ByteArray} {a n : Int} {R : List UInt8} (h : At s a R) (hn : n < 0 ∨ (R.length : Int) < n) : cursor_Cursor_Take.f s a 0 n = some (strN [], s, a, 3) := by
  have h1 := h.size
  have h2 := h.nn
  exact take_short h.1 h2 (by omega) (by omega)
end Go.Proofs.Ytnjfddmajiihjaa.Cur
namespace Go.Proofs.Ytnjfddmajiihjaa.Cur
set_option linter.unusedVariables false
set_option linter.unusedSimpArgs false
open Go Go.RowKit Go.Proofs.Ytnjfddmajiihjaa.P Go.Proofs.Ytnjfddmajiihjaa.B Go.Proofs.Ytnjfddmajiihjaa.Num Go.Proofs.YtnjfddmajiihjaaW.PrintWords Go.Proofs.YtnjfddmajiihjaaW.PrintLast Go.Proofs.YtnjfddmajiihjaaW.PrintMore
section
variable {s : ByteArray} {at_ : Int} {pre mid post : List UInt8}
theorem two_list (hs : s.size ≤ 140737488351232) (h : s.data.toList = pre ++ mid ++ post) (ha : at_ = pre.length) (hn : mid.length = 2) (k : Nat) (hk : 8 < k) :
    cursor_Cursor_Two.f k s at_ 0 = some (((leN mid : Nat) : Int), s, (((pre ++ mid).length : Nat) : Int), 0) := by
  unfold cursor_Cursor_Two.f
  have hb := leN_lt mid
  rw [hn] at hb
  rw [take_list hs h ha (by omega)]
  simp only [Option.bind_some]
  rw [number_strN _ (by omega) _ hk]
  simp only [Option.bind_some]
  rw [u16_mod, show ((leN mid : Nat) : Int) % 65536 = (leN mid : Nat) by omega]
theorem two_short (hs : s.size ≤ 140737488351232) (ha : 0 ≤ at_) (ha2 : at_ ≤ s.size) (hn : (s.size : Int) - at_ < 2) (k : Nat) (hk : 8 < k) : cursor_Cursor_Two.f k s at_ 0 = some (0, s, at_, 3) := by
  unfold cursor_Cursor_Two.f
  rw [take_short hs ha ha2 (.inr hn)]
  simp only [Option.bind_some]
  rw [number_strN _ (by simp) _ hk]
  rfl
theorem two_bad {e : Int} (he : e ≠ 0) (k : Nat) (hk : 8 < k) : cursor_Cursor_Two.f k s at_ e = some (0, s, at_, e) := by
  unfold cursor_Cursor_Two.f
  rw [take_bad he]
  simp only [Option.bind_some]
  rw [number_strN _ (by simp) _ hk]
  rfl
end
end Go.Proofs.Ytnjfddmajiihjaa.Cur
namespace Go.Proofs.Ytnjfddmajiihjaa.Cur
set_option linter.unusedVariables false
set_option linter.unusedSimpArgs false
open Go Go.RowKit Go.Proofs.Ytnjfddmajiihjaa.P Go.Proofs.Ytnjfddmajiihjaa.B Go.Proofs.Ytnjfddmajiihjaa.Num Go.Proofs.YtnjfddmajiihjaaW.PrintWords Go.Proofs.YtnjfddmajiihjaaW.PrintLast Go.Proofs.YtnjfddmajiihjaaW.PrintMore
theorem two_at {s : ByteArray} {a : Int} {m R : List UInt8} (h : At s a (m ++ R)) (hn : m.length = 2) (k : Nat) (hk : 8 < k) : cursor_Cursor_Two.f k s a 0 = some (((leN m : Nat) : Int), s, a + m.length, 0) := by
  obtain ⟨hs, pre, he, rfl⟩ := h
  rw [two_list (pre := pre) (mid := m) (post := R) hs (by rw [he]; simp) rfl hn k hk]
  simp
theorem two_fail {s : ByteArray} {a : Int} {R : List UInt8} (h : At s a R) (hn : R.length < 2) (k : Nat) (hk : 8 < k) : cursor_Cursor_Two.f k s a 0 = some (0, s, a, 3) := by
  have h1 := h.size
  have h2 := h.nn
  exact two_short h.1 h2 (by omega) (by omega) k hk
end Go.Proofs.Ytnjfddmajiihjaa.Cur
namespace Go.Proofs.Ytnjfddmajiihjaa.Cur
set_option linter.unusedVariables false
set_option linter.unusedSimpArgs false
open Go Go.RowKit Go.Proofs.Ytnjfddmajiihjaa.P Go.Proofs.Ytnjfddmajiihjaa.B Go.Proofs.Ytnjfddmajiihjaa.Num Go.Proofs.YtnjfddmajiihjaaW.PrintWords Go.Proofs.YtnjfddmajiihjaaW.PrintLast Go.Proofs.YtnjfddmajiihjaaW.PrintMore
section
variable {s : ByteArray} {at_ : Int} {pre mid post : List UInt8}
theorem four_list (hs : s.size ≤ 140737488351232) (h : s.data.toList = pre ++ mid ++ post) (ha : at_ = pre.length) (hn : mid.length = 4) (k : Nat) (hk : 8 < k) :
    cursor_Cursor_Four.f k s at_ 0 = some (((leN mid : Nat) : Int), s, (((pre ++ mid).length : Nat) : Int), 0) := by
  unfold cursor_Cursor_Four.f
  have hb := leN_lt mid
  rw [hn] at hb
  rw [take_list hs h ha (by omega)]
  simp only [Option.bind_some]
  rw [number_strN _ (by omega) _ hk]
  simp only [Option.bind_some]
  rw [show ((leN mid : Nat) : Int) % 4294967296 = (leN mid : Nat) by omega]
theorem four_short (hs : s.size ≤ 140737488351232) (ha : 0 ≤ at_) (ha2 : at_ ≤ s.size) (hn : (s.size : Int) - at_ < 4) (k : Nat) (hk : 8 < k) : cursor_Cursor_Four.f k s at_ 0 = some (0, s, at_, 3) := by
  unfold cursor_Cursor_Four.f
  rw [take_short hs ha ha2 (.inr hn)]
  simp only [Option.bind_some]
  rw [number_strN _ (by simp) _ hk]
  rfl
theorem four_bad {e : Int} (he : e ≠ 0) (k : Nat) (hk : 8 < k) : cursor_Cursor_Four.f k s at_ e = some (0, s, at_, e) := by
  unfold cursor_Cursor_Four.f
  rw [take_bad he]
  simp only [Option.bind_some]
  rw [number_strN _ (by simp) _ hk]
  rfl
end
end Go.Proofs.Ytnjfddmajiihjaa.Cur
namespace Go.Proofs.Ytnjfddmajiihjaa.Num
set_option linter.unusedVariables false
set_option linter.unusedSimpArgs false
open Go Go.RowKit Go.Proofs.Ytnjfddmajiihjaa.P Go.Proofs.Ytnjfddmajiihjaa.B Go.Proofs.YtnjfddmajiihjaaW.PrintWords Go.Proofs.YtnjfddmajiihjaaW.PrintLast Go.Proofs.YtnjfddmajiihjaaW.PrintMore
theorem of_loop (n c : Nat) (hn : n < 2 ^ 64) : ∀ (d k i : Nat) (xs : List Int), i + d = min c 8 → xs = (ofN i n).map (fun b => (b.toNat : Int)) ++ List.replicate (c - i) 0 → d < k →
    cursor_Of.l0 k (n : Int) xs ((min c 8 : Nat) : Int) (i : Int) = some (strN (ofN c n)) := by
  intro d
  induction d with
  | zero =>
    intro k i xs hd hx hk
    obtain ⟨k, rfl⟩ : ∃ m, k = m + 1 := ⟨k - 1, by omega⟩
    have hs : strOfNums xs = strN (ofN c n) := by
      apply strN_eq
      rw [hx]
      apply List.ext_getElem?
      intro j
      by_cases h1 : j < i
      · rw [List.getElem?_append_left (by simpa [ofN_length] using h1)]
        simp only [List.getElem?_map]
        rw [ofN_get _ _ _ h1, ofN_get _ _ _ (by omega)]
      · rw [List.getElem?_append_right (by simp [ofN_length]; omega)]
        by_cases h2 : j < c
        · simp only [List.getElem?_map]
          rw [ofN_get _ _ _ h2]
          have : n / 256 ^ j = 0 := by
            apply Nat.div_eq_of_lt
            have : 256 ^ 8 ≤ 256 ^ j := Nat.pow_le_pow_right (by decide) (by omega)
            omega
          simp only [Option.map_some, this, List.length_map, ofN_length, List.getElem?_replicate]
          rw [if_pos (by omega)]
          rfl
        · rw [List.getElem?_eq_none (by simp [ofN_length]; omega), List.getElem?_eq_none (by simp [ofN_length]; omega)]
    simp only [cursor_Of.l0]
    rw [if_neg (by omega), hs]
  | succ d ih =>
    intro k i xs hd hx hk
    obtain ⟨k, rfl⟩ : ∃ m, k = m + 1 := ⟨k - 1, by omega⟩
    have hlen : xs.length = c := by rw [hx]; simp [ofN_length]; omega
    have h8 : wrap64 (8 * (i : Int)) = ((8 * i : Nat) : Int) := by rw [wrap_id (by omega) (by omega)]; omega
    simp only [cursor_Of.l0]
    rw [if_pos (by omega), h8, if_pos (by omega), if_pos (by omega), if_pos (by omega), wrap_id (by omega) (by omega)]
    have e1 : shr .u64 (n : Int) ((8 * i : Nat) : Int) % 256 = ((n / 256 ^ i % 256 : Nat) : Int) := by
      unfold shr
      rw [Int.toNat_natCast, Nat.min_eq_left (by simp [IntKind.bits]; omega), show (256 : Nat) ^ i = 2 ^ (8 * i) by rw [Nat.pow_mul]]
      simp
    rw [e1, Int.toNat_natCast]
    refine ih k (i + 1) _ (by omega) ?_ (by omega)
    rw [hx]
    apply List.ext_getElem?
    intro j
    rw [List.getElem?_set]
    by_cases h1 : j < i
    · rw [if_neg (by omega), List.getElem?_append_left (by simpa [ofN_length] using h1), List.getElem?_append_left (by simp [ofN_length]; omega)]
      simp only [List.getElem?_map]
      rw [ofN_get _ _ _ h1, ofN_get _ _ _ (by omega)]
    · by_cases h2 : i = j
      · subst h2
        rw [if_pos rfl, if_pos (by simp [ofN_length]; omega), List.getElem?_append_left (by simp [ofN_length])]
        simp only [List.getElem?_map]
        rw [ofN_get _ _ _ (by omega)]
        simp
      · rw [if_neg h2, List.getElem?_append_right (by simp [ofN_length]; omega), List.getElem?_append_right (by simp [ofN_length]; omega)]
        simp only [List.length_map, ofN_length, List.getElem?_replicate]
        by_cases h3 : j < c
        · rw [if_pos (by omega), if_pos (by omega)]
        · rw [if_neg (by omega), if_neg (by omega)]
theorem of_eq (n : Nat) (hn : n < 2 ^ 64) (a1 : Int) (k : Nat) (hk : 64 < k) : cursor_Of.f k (n : Int) a1 = some (strN (ofI n a1)) := by
  have hm : mn (mx a1 0) 64 = ((min a1.toNat 64 : Nat) : Int) := by unfold mn mx; omega
  unfold cursor_Of.f ofI
  rw [hm, if_pos (by omega), if_pos (by omega)]
  simp only [Option.bind_some, List.length_replicate, Int.toNat_natCast]
  have hm2 : mn ((min a1.toNat 64 : Nat) : Int) 8 = ((min (min a1.toNat 64) 8 : Nat) : Int) := by unfold mn; omega
  rw [hm2]
  exact of_loop n (min a1.toNat 64) hn (min (min a1.toNat 64) 8) k 0 _ (by omega) (by simp [ofN]) (by omega)
end Go.Proofs.Ytnjfddmajiihjaa.Num
namespace Go.Proofs.Ytnjfddmajiihjaa.Num
set_option linter.unusedVariables false
set_option linter.unusedSimpArgs false
open Go Go.RowKit Go.Proofs.Ytnjfddmajiihjaa.P Go.Proofs.Ytnjfddmajiihjaa.B Go.Proofs.YtnjfddmajiihjaaW.PrintWords Go.Proofs.YtnjfddmajiihjaaW.PrintLast Go.Proofs.YtnjfddmajiihjaaW.PrintMore
theorem four_eq (n : Nat) (hn : n < 2 ^ 32) (k : Nat) (hk : 64 < k) : cursor_Four.f k (n : Int) = some (strN (ofN 4 n)) := by
  unfold cursor_Four.f
  rw [u64_id (by omega) (by omega), of_eq n (by omega) 4 k hk]; rfl
end Go.Proofs.Ytnjfddmajiihjaa.Num
namespace Go.Proofs.Ytnjfddmajiihjaa.P
set_option linter.unusedVariables false
set_option linter.unusedSimpArgs false
open Go Go.RowKit Go.Proofs.Ytnjfddmajiihjaa.B Go.Proofs.Ytnjfddmajiihjaa.Num Go.Proofs.Ytnjfddmajiihjaa.Sb Go.Proofs.YtnjfddmajiihjaaW.PrintWords Go.Proofs.YtnjfddmajiihjaaW.PrintLast Go.Proofs.YtnjfddmajiihjaaW.PrintMore
def header_fours.f (l : List Int) : Option ByteArray := if l.length ≤ 1000 ∧ ∀ x ∈ l, 0 ≤ x ∧ x < 2 ^ 32 then some (strN (l.flatMap fun x => ofN 4 x.toNat)) else none
theorem flat_len_fours (l : List Int) : (l.flatMap fun x => ofN 4 x.toNat).length = 4 * l.length := by
  induction l with
  | nil => rfl
  | cons x l ih => rw [List.flatMap_cons, List.length_append, ih, ofN_length, List.length_cons]; omega
theorem strN_toList_fours (l : List Int) (r : ByteArray) (h : strN (l.flatMap fun x => ofN 4 x.toNat) = r) : r.data.toList = l.flatMap fun x => ofN 4 x.toNat := by subst h; rfl
set_option maxHeartbeats 4000000 in
set_option maxRecDepth 100000 in
theorem header_fours.calls (A0 : Option Addr) (c0 : Nat) (l0 : List Int) (r : ByteArray) (w : World) (hr0 : Kd.C (Kd.int .u32) w A0 l0.length l0) (hc0 : l0.length ≤ c0) (h : header_fours.f l0 = some r) :
    Calls Try.prog 24 #[.slice A0 l0.length c0] w fun e w' => e = .returned (.string r) ∧ Below w.heap.size w w' := by
  unfold header_fours.f at h
  split at h
  case isFalse => cases h
  case isTrue hb =>
  obtain ⟨hlen, hrange⟩ := hb
  have hres : strN (l0.flatMap fun x => ofN 4 x.toNat) = r := Option.some.inj h
  clear h
  have HC := Aside0.mk hr0
  have HRES := Aside0.mk hres
  clear hr0 hres
  have HB := Aside0.mk (below_alloc (Below.refl w.heap.size w) (.cells #[.pointer none, .slice none 0 0] 81))
  have HI := Aside0.mk (fresh w)
  go_enter Try.func24, Try.ntmps24
  go_wp2
  go_loopw [8] (fun v8 wr => ∃ j : Nat, v8 = .int .i64 j ∧ j ≤ l0.length ∧ Aside0 (Lib.IsBuilder 81 5 w.heap.size w.heap.size (Lib.byteCells ((l0.take j).flatMap fun x => ofN 4 x.toNat)) wr) ∧ Aside0 (Below w.heap.size w wr))
    (fun v _ => l0.length - (intOf v).toNat)
  case atStart => exact ⟨0, rfl, by omega, HI, HB⟩
  case round =>
    clear HI HB
    obtain ⟨j, rfl, hj, HI, HB⟩ := hrel
    by_cases hlt : j < l0.length
    · have hd : decide (j < l0.length) = true := decide_eq_true hlt
      obtain ⟨ad, hA, hc⟩ := Kd.at_int (Kd.C_below HC.out HB.out) (j : Int) (by omega) (by omega)
      subst hA
      have hg : rd l0 (j : Int) = l0[j] := by unfold rd; rw [List.getD_eq_getElem?_getD, Int.toNat_natCast, List.getElem?_eq_getElem hlt]; rfl
      rw [hg] at hc
      simp only [Int.toNat_natCast] at hc
      obtain ⟨hx0, hx1⟩ := hrange _ (List.getElem_mem hlt)
      obtain ⟨x, hx⟩ : ∃ x : Nat, l0[j] = (x : Int) := ⟨(l0[j]).toNat, by omega⟩
      have htk : (l0.take (j + 1)).flatMap (fun x => ofN 4 x.toNat) = (l0.take j).flatMap (fun x => ofN 4 x.toNat) ++ ofN 4 x := by
        rw [List.take_succ_eq_append_getElem hlt, List.flatMap_append, hx]; simp
      have hln := flat_len_fours (l0.take j)
      have hlt2 : (l0.take j).length = j := by rw [List.length_take]; omega
      rw [hlt2] at hln
      obtain ⟨bs, hbs⟩ : ∃ bs, (l0.take j).flatMap (fun x => ofN 4 x.toNat) = bs := ⟨_, rfl⟩
      rw [hbs] at HI htk hln
      rw [hx] at hc hx1
      have HX := Aside0.mk (show x < 2 ^ 32 by omega)
      have HTK := Aside0.mk htk
      have HLN := Aside0.mk hln
      clear hbs hg hx0 hx1 hx htk hln hlt2 hrange
      go_wp2_with (first
        | (go_at_call 26; refine (cursor_Four.calls 65 _ _ _ (four_eq x HX.out 65 (by omega))).mono ?_; rintro e w1 ⟨rfl, hb⟩; have HI1 := Aside0.mk (is_below HI.out hb); have HB1 := Aside0.mk (below_step HB.out hb); clear hb)
        | (go_at_call 38; refine (write_calls w.heap.size w.heap.size _ _ _ HI1.out (by rw [HLN.out, show (strN (ofN 4 x)).size = 4 from ofN_length 4 x]; omega) (by have := HB1.out.size; exact this)).mono ?_; rintro e w2 ⟨rfl, hat, hb⟩; have HI2 := Aside0.mk hat; have HB2 := Aside0.mk (HB1.out.trans hb); clear hat hb))
      go_roundw
      case rel => exact ⟨j + 1, by go_num, by omega, ⟨by rw [HTK.out]; exact HI2.out⟩, HB2⟩
      case measure => simp [intOf]; omega
    · have hd : decide (j < l0.length) = false := decide_eq_false hlt
      obtain rfl : j = l0.length := by omega
      rw [List.take_length, ← strN_toList_fours l0 r HRES.out] at HI
      go_wp2_with (go_at_call 40; refine (string_calls w.heap.size w.heap.size _ _ HI.out (by have := HB.out.size; exact this)).mono ?_; rintro e w2 ⟨rfl, hb⟩; have HB2 := Aside0.mk (HB.out.trans hb); clear hb)
      go_ret
      exact ⟨rfl, HB2.out⟩
end Go.Proofs.Ytnjfddmajiihjaa.P
namespace Go.Proofs.Ytnjfddmajiihjaa.Num
set_option linter.unusedVariables false
set_option linter.unusedSimpArgs false
open Go Go.RowKit Go.Proofs.Ytnjfddmajiihjaa.P Go.Proofs.Ytnjfddmajiihjaa.B Go.Proofs.YtnjfddmajiihjaaW.PrintWords Go.Proofs.YtnjfddmajiihjaaW.PrintLast Go.Proofs.YtnjfddmajiihjaaW.PrintMore
end Go.Proofs.Ytnjfddmajiihjaa.Num
namespace Go.Proofs.Ytnjfddmajiihjaa.Opens
set_option linter.unusedVariables false
set_option linter.unusedSimpArgs false
open Go Go.RowKit Go.Proofs.YtnjfddmajiihjaaW.PrintWords Go.Proofs.YtnjfddmajiihjaaW.PrintLast Go.Proofs.YtnjfddmajiihjaaW.PrintMore
section
variable {P : Program}
structure Opens {α : Type} (P : Program) (t : TypeId) (d : Kd α) (ok : α → Prop) : Prop where
  size : P.cellsOf t = d.sz
  get : ∀ {H : Type} {enc : TypeId × Value → H} {w : World} {base : Nat} {spare : Nat → Bool} {held : Bool} {fuel : Nat} {cs : List Value} {x : DataW H × List MemPlace},
    DataW.trod enc P w base spare held fuel t cs = some x → ∃ a, d.K w a cs ∧ ok a
theorem Opens.int {t : TypeId} {k : IntKind} (hu : P.underlying t = some (.int k)) (hs : P.cellsOf t = 1) : Opens P t (Kd.int k) (fun n => (Lit.int k n).wf = true) :=
  ⟨hs, fun h => by obtain ⟨n, rfl, _, hw⟩ := DataW.trod_int hu h; exact ⟨n, rfl, hw⟩⟩
theorem Opens.bool {t : TypeId} (hu : P.underlying t = some .bool) (hs : P.cellsOf t = 1) : Opens P t Kd.bool (fun _ => True) :=
  ⟨hs, fun h => by obtain ⟨b, rfl, _⟩ := DataW.trod_bool hu h; exact ⟨b, rfl, trivial⟩⟩
theorem Opens.string {t : TypeId} (hu : P.underlying t = some .string) (hs : P.cellsOf t = 1) : Opens P t Kd.string (fun s => s.size ≤ maxLen) :=
  ⟨hs, fun h => by obtain ⟨s, rfl, _, hl⟩ := DataW.trod_string hu h; exact ⟨s, rfl, hl⟩⟩
theorem slice_row {α : Type} {t e : TypeId} {d : Kd α} {ok : α → Prop} (hu : P.underlying t = some (.slice e)) (ho : Opens P e d ok)
    {H : Type} {enc : TypeId × Value → H} {w : World} {base : Nat} {spare : Nat → Bool} {held : Bool} {fuel : Nat} {cs : List Value} {x : DataW H × List MemPlace}
    (h : DataW.trod enc P w base spare held fuel t cs = some x) :
    ∃ A c, ∃ xs : List α, cs = [.slice A xs.length c] ∧ xs.length ≤ c ∧ d.C w A xs.length xs ∧ (∀ a ∈ xs, ok a) ∧ (x.1 = .nil ∧ xs = [] ∨ ∃ elems rest, x.1 = .slice elems rest ∧ elems.length = xs.length) := by
  rcases DataW.trod_slice hu h with ⟨rfl, rfl⟩ | ⟨a, len, cap, elems, rest, n, _, rfl, rfl, _, hl, hm, hlen, hel, _, _⟩
  · exact ⟨none, 0, [], rfl, Nat.le_refl _, ⟨rfl, by simp, fun h0 => absurd h0 (by simp)⟩, (fun a ha => by cases ha), .inl ⟨rfl, rfl⟩⟩
  · have each : ∀ i : Fin len, ∃ p, ok p ∧ ∃ c, c.length = d.sz ∧ d.K w p c ∧ ∀ j u, c[j]? = some u → w.cell? (a.add (i * d.sz + j)) = some u := by
      intro i
      have h1 := hel i i.2
      have h2 : (i : Nat) < elems.length := by have := i.2; omega
      rw [List.getElem?_eq_getElem h2, Option.bind_eq_some_iff] at h1
      obtain ⟨cs', hcs, ht⟩ := h1
      obtain ⟨_, hcl, hcc⟩ := World.cells?_some hcs
      obtain ⟨p, hp, hok⟩ := ho.get ht
      rw [ho.size] at hcl hcc
      refine ⟨p, hok, cs', hcl, hp, fun j u hj => ?_⟩
      have hj2 : j < d.sz := by
        rw [← hcl]
        exact (List.getElem?_eq_some_iff.1 hj).1
      have h3 := hcc j hj2
      rw [hj] at h3
      rw [← h3, add_add]
    have hg : ∀ (j : Nat) (p : α), (List.ofFn fun i => Classical.choose (each i))[j]? = some p → ∃ hj : j < len, p = Classical.choose (each ⟨j, hj⟩) := by
      intro j p hp
      obtain ⟨hj, he⟩ := List.getElem?_eq_some_iff.1 hp
      rw [List.length_ofFn] at hj
      refine ⟨hj, ?_⟩
      rw [← he, List.getElem_ofFn]
    refine ⟨some a, cap, List.ofFn fun i => Classical.choose (each i), by rw [List.length_ofFn], by rw [List.length_ofFn]; exact hl, ⟨rfl, ?_, fun _ => ⟨a, rfl, fun j p hp => ?_⟩⟩, ?_, .inr ⟨_, _, rfl, by rw [List.length_ofFn, List.length_map, hlen]⟩⟩
    · rw [List.length_ofFn]
      unfold maxLen at hm
      omega
    · obtain ⟨hj, rfl⟩ := hg j p hp
      obtain ⟨_, c, hc, hk, hcell⟩ := Classical.choose_spec (each ⟨j, hj⟩)
      exact ⟨c, hc, hk, hcell⟩
    · intro p hp
      obtain ⟨j, hj⟩ := List.getElem?_of_mem hp
      obtain ⟨hj', rfl⟩ := hg j p hj
      exact (Classical.choose_spec (each ⟨j, hj'⟩)).1
theorem Opens.slice {α : Type} {t e : TypeId} {d : Kd α} {ok : α → Prop} (hu : P.underlying t = some (.slice e)) (hs : P.cellsOf t = 1) (ho : Opens P e d ok) : Opens P t (Kd.slice e d) (fun xs => ∀ a ∈ xs, ok a) :=
  ⟨hs, fun h => by obtain ⟨A, c, xs, rfl, hl, hc, hok, _⟩ := slice_row hu ho h; exact ⟨xs, ⟨A, c, rfl, hl, hc⟩, hok⟩⟩
end
end Go.Proofs.Ytnjfddmajiihjaa.Opens
