import Derived.Test.YtdooampgkiodjaaWMore
import Derived.Laws.BitsLemmas
import Derived.Test.YtdooampgkiodjaaPx3
import Derived.Test.YtdooampgkiodjaaPx2
import Derived.Test.YtdooampgkiodjaaPx4
import Derived.Test.YtdooampgkiodjaaProg
import Derived.Shelf.Strings.Builder1
import Derived.Shelf.Strings.BuilderK
import Derived.Test.YtdooampgkiodjaaPx9
import Derived.Test.YtdooampgkiodjaaPx14
namespace Go.Proofs.Ytdooampgkiodjaa.B
set_option linter.unusedVariables false
set_option linter.unusedSimpArgs false
open Go Go.RowKit Go.Proofs.YtdooampgkiodjaaW.PrintWords Go.Proofs.YtdooampgkiodjaaW.PrintLast Go.Proofs.YtdooampgkiodjaaW.PrintMore
theorem wrap_id {x : Int} (h0 : -9223372036854775808 ≤ x) (h1 : x ≤ 9223372036854775807) : wrap64 x = x := by
  unfold wrap64; omega
theorem u64_mod (x : Int) : IntKind.u64.wrap x = x % 18446744073709551616 := by simp [IntKind.wrap, IntKind.bits, IntKind.signed]
theorem u64_id {x : Int} (h0 : 0 ≤ x) (h1 : x < 18446744073709551616) : IntKind.u64.wrap x = x := by rw [u64_mod]; omega
theorem u16_mod (x : Int) : IntKind.u16.wrap x = x % 65536 := by simp [IntKind.wrap, IntKind.bits, IntKind.signed]
theorem wf_u64 {x : Int} (h : (Lit.int .u64 x).wf = true) : 0 ≤ x ∧ x ≤ 18446744073709551615 := by
  simp [Lit.wf, IntKind.min, IntKind.max, IntKind.signed, IntKind.bits] at h; omega
theorem wf_u16 {x : Int} (h : (Lit.int .u16 x).wf = true) : 0 ≤ x ∧ x ≤ 65535 := by
  simp [Lit.wf, IntKind.min, IntKind.max, IntKind.signed, IntKind.bits] at h; omega
def leN : List UInt8 → Nat
  | [] => 0
  | b :: l => b.toNat + 256 * leN l
theorem leN_append (a b : List UInt8) : leN (a ++ b) = leN a + 256 ^ a.length * leN b := by
  induction a with
  | nil => simp [leN]
  | cons x a ih => simp only [List.cons_append, leN, ih, List.length_cons, Nat.pow_succ]; rw [Nat.mul_add, Nat.mul_comm (256 ^ a.length) 256, Nat.mul_assoc, Nat.add_assoc]
theorem leN_lt (l : List UInt8) : leN l < 256 ^ l.length := by
  induction l with
  | nil => simp [leN]
  | cons x l ih => simp only [leN, List.length_cons, Nat.pow_succ]; have := x.toNat_lt; omega
def ofN : Nat → Nat → List UInt8
  | 0, _ => []
  | c + 1, n => UInt8.ofNat (n % 256) :: ofN c (n / 256)
theorem ofN_length (c n : Nat) : (ofN c n).length = c := by
  induction c generalizing n with
  | zero => rfl
  | succ c ih => simp [ofN, ih]
theorem leN_ofN (c n : Nat) : leN (ofN c n) = n % 256 ^ c := by
  induction c generalizing n with
  | zero => simp [ofN, leN, Nat.mod_one]
  | succ c ih =>
    simp only [ofN, leN, ih]
    rw [Nat.pow_succ, Nat.mul_comm (256 ^ c) 256, Nat.mod_mul]
    have : (UInt8.ofNat (n % 256)).toNat = n % 256 := by simp
    rw [this]
theorem ofN_get (c n i : Nat) (h : i < c) : (ofN c n)[i]? = some (UInt8.ofNat (n / 256 ^ i % 256)) := by
  induction c generalizing n i with
  | zero => omega
  | succ c ih =>
    cases i with
    | zero => simp [ofN]
    | succ i => simp only [ofN, List.getElem?_cons_succ]; rw [ih _ _ (by omega), Nat.pow_succ, Nat.mul_comm (256 ^ i) 256, Nat.div_div_eq_div_mul]
theorem bt_nat (s : ByteArray) (i : Nat) (h : i < s.data.toList.length) : bt s (i : Int) = ((s.data.toList[i]).toNat : Int) := by
  have h' : i < s.size := by simpa using h
  have := bt_at s (i : Int) (by simpa using h')
  rw [← this]
  simp [ByteArray.getElem_eq_getElem_data]
theorem toList_length (s : ByteArray) : s.data.toList.length = s.size := by simp
theorem toL (s : ByteArray) : s.toList = s.data.toList := ByteArray.toList_eq s
theorem or_shl (a b i : Nat) (hi : i < 8) (ha : a < 256 ^ i) (hb : b < 256) : Go.bits .or .u64 (a : Int) (shl .u64 (IntKind.u64.wrap (b : Int)) ((8 * i : Nat) : Int)) = ((a + 256 ^ i * b : Nat) : Int) := by
  have e : (256 : Nat) ^ i = 2 ^ (8 * i) := by rw [Nat.pow_mul]
  have hp : 256 ^ i * 256 ≤ 2 ^ 64 := by
    rw [e, show (256 : Nat) = 2 ^ 8 from rfl, ← Nat.pow_add]
    exact Nat.pow_le_pow_right (by decide) (by omega)
  have hm : 256 ^ i * b < 2 ^ 64 := Nat.lt_of_lt_of_le (Nat.mul_lt_mul_of_pos_left hb (Nat.pow_pos (by decide))) hp
  have hs : shl .u64 (IntKind.u64.wrap (b : Int)) ((8 * i : Nat) : Int) = ((256 ^ i * b : Nat) : Int) := by
    unfold shl
    rw [u64_id (x := (b : Int)) (by omega) (by omega), Int.toNat_natCast, Nat.min_eq_left (by simp [IntKind.bits]; omega)]
    have e2 : (b : Int) * 2 ^ (8 * i) = ((256 ^ i * b : Nat) : Int) := by rw [e]; simp [Int.mul_comm]
    rw [e2, u64_id (by omega) (by omega)]
  rw [hs, (bits_nat .u64 64 (by decide) (fun n h0 h1 => u64_id h0 h1) a (256 ^ i * b) (Nat.lt_of_lt_of_le ha (by omega)) hm).2, e, Nat.or_comm, Nat.add_comm,
    Nat.two_pow_add_eq_or_of_lt (by rw [← e]; exact ha)]
end Go.Proofs.Ytdooampgkiodjaa.B
namespace Go.Proofs.Ytdooampgkiodjaa.Num
set_option linter.unusedVariables false
set_option linter.unusedSimpArgs false
open Go Go.RowKit Go.Proofs.Ytdooampgkiodjaa.B Go.Proofs.YtdooampgkiodjaaW.PrintWords Go.Proofs.YtdooampgkiodjaaW.PrintLast Go.Proofs.YtdooampgkiodjaaW.PrintMore
def ofI (n : Nat) (c : Int) : List UInt8 := ofN (min c.toNat 64) n
def strN (l : List UInt8) : ByteArray := ⟨l.toArray⟩
theorem strN_eq (xs : List Int) (l : List UInt8) (h : xs = l.map fun b => (b.toNat : Int)) : strOfNums xs = strN l := by
  subst h
  simp [strOfNums, strN, List.map_map, Function.comp_def]
end Go.Proofs.Ytdooampgkiodjaa.Num
namespace Go.Proofs.Ytdooampgkiodjaa.Num
set_option linter.unusedVariables false
set_option linter.unusedSimpArgs false
open Go Go.RowKit Go.Proofs.Ytdooampgkiodjaa.P Go.Proofs.Ytdooampgkiodjaa.B Go.Proofs.YtdooampgkiodjaaW.PrintWords Go.Proofs.YtdooampgkiodjaaW.PrintLast Go.Proofs.YtdooampgkiodjaaW.PrintMore
theorem number_loop (s : ByteArray) (hs : s.size ≤ 8) : ∀ (d k i : Nat), i + d = s.size → d < k →
    cursor_number.l0 k s ((leN (s.data.toList.take i) : Nat) : Int) (s.size : Int) (i : Int) = some ((leN s.data.toList : Nat) : Int) := by
  have hl : s.data.toList.length = s.size := toList_length s
  intro d
  induction d with
  | zero =>
    intro k i hd hk
    obtain ⟨k, rfl⟩ : ∃ m, k = m + 1 := ⟨k - 1, by omega⟩
    simp only [cursor_number.l0]
    rw [if_neg (by omega), List.take_of_length_le (by omega)]
  | succ d ih =>
    intro k i hd hk
    obtain ⟨k, rfl⟩ : ∃ m, k = m + 1 := ⟨k - 1, by omega⟩
    have hlt : i < s.data.toList.length := by omega
    have h8 : wrap64 (8 * (i : Int)) = ((8 * i : Nat) : Int) := by rw [wrap_id (by omega) (by omega)]; omega
    have hi1 : wrap64 ((i : Int) + 1) = ((i + 1 : Nat) : Int) := by rw [wrap_id (by omega) (by omega)]; omega
    have hb := bt_nat s i hlt
    have ht := leN_lt (s.data.toList.take i)
    rw [List.length_take, Nat.min_eq_left (by omega)] at ht
    simp only [cursor_number.l0]
    rw [if_pos (by omega), if_pos (by omega), if_pos (by omega), h8, if_pos (by omega), hi1, hb, or_shl _ _ i (by omega) ht (UInt8.toNat_lt _)]
    have e : leN (s.data.toList.take (i + 1)) = leN (s.data.toList.take i) + 256 ^ i * (s.data.toList[i]).toNat := by
      rw [List.take_succ_eq_append_getElem hlt, leN_append, List.length_take, Nat.min_eq_left (by omega)]
      simp [leN]
    rw [← e]
    exact ih k (i + 1) (by omega) (by omega)
theorem number_eq (s : ByteArray) (hs : s.size ≤ 8) (k : Nat) (hk : 8 < k) : cursor_number.f k s = some ((leN s.data.toList : Nat) : Int) := by
  have := number_loop s hs s.size k 0 (by omega) (by omega)
  simpa [cursor_number.f, leN] using this
end Go.Proofs.Ytdooampgkiodjaa.Num
namespace Go.Proofs.Ytdooampgkiodjaa.Cur
set_option linter.unusedVariables false
set_option linter.unusedSimpArgs false
open Go Go.RowKit Go.Proofs.Ytdooampgkiodjaa.P Go.Proofs.Ytdooampgkiodjaa.B Go.Proofs.Ytdooampgkiodjaa.Num Go.Proofs.YtdooampgkiodjaaW.PrintWords Go.Proofs.YtdooampgkiodjaaW.PrintLast Go.Proofs.YtdooampgkiodjaaW.PrintMore
theorem strN_data (l : List UInt8) : (strN l).data.toList = l := rfl
theorem strN_size (l : List UInt8) : (strN l).size = l.length := by simp [strN, ByteArray.size]
theorem ext_list {s t : ByteArray} (h : s.data.toList = t.data.toList) : s = t := ByteArray.ext (Array.toList_inj.1 h)
theorem extract_list (s : ByteArray) (i j : Nat) : (s.extract i j).data.toList = (s.data.toList.take j).drop i := by
  simp [List.extract_eq_take_drop, List.drop_take]
theorem extract_strN {s : ByteArray} {pre mid post : List UInt8} (h : s.data.toList = pre ++ mid ++ post) : s.extract pre.length (pre.length + mid.length) = strN mid := by
  apply ext_list
  rw [extract_list, h, strN_data, List.append_assoc, List.take_append]
  simp
theorem number_strN (l : List UInt8) (h : l.length ≤ 8) (k : Nat) (hk : 8 < k) : cursor_number.f k (strN l) = some ((leN l : Nat) : Int) := by
  have := number_eq (strN l) (by rw [strN_size]; exact h) k hk
  rwa [strN_data] at this
section
variable {s : ByteArray} {at_ n : Int} {pre mid post : List UInt8}
theorem take_list (hs : s.size ≤ 140737488351232) (h : s.data.toList = pre ++ mid ++ post) (ha : at_ = pre.length) (hn : n = mid.length) :
    cursor_Cursor_Take.f s at_ 0 n = some (strN mid, s, (((pre ++ mid).length : Nat) : Int), 0) := by
  have hl : s.size = pre.length + mid.length + post.length := by rw [← toList_length s, h]; simp; omega
  unfold cursor_Cursor_Take.f
  rw [if_pos rfl, if_neg (by omega), wrap_id (x := (s.size : Int) - at_) (by omega) (by omega), if_neg (by omega), wrap_id (x := at_ + n) (by omega) (by omega), if_pos (by omega), if_pos (by omega), if_pos (by omega)]
  have e1 : at_.toNat = pre.length := by omega
  have e2 : (at_ + n).toNat = pre.length + mid.length := by omega
  rw [e1, e2, extract_strN h]
  simp only [Option.some.injEq, Prod.mk.injEq, and_true, true_and]
  simp; omega
theorem take_short (hs : s.size ≤ 140737488351232) (ha : 0 ≤ at_) (ha2 : at_ ≤ s.size) (hn : n < 0 ∨ (s.size : Int) - at_ < n) : cursor_Cursor_Take.f s at_ 0 n = some (strN [], s, at_, 3) := by
  unfold cursor_Cursor_Take.f
  rw [if_pos rfl]
  by_cases h0 : n < 0
  · rw [if_pos h0]; rfl
  · rw [if_neg h0, wrap_id (x := (s.size : Int) - at_) (by omega) (by omega), if_pos (by omega)]; rfl
theorem take_bad {e : Int} (he : e ≠ 0) : cursor_Cursor_Take.f s at_ e n = some (strN [], s, at_, e) := by
  unfold cursor_Cursor_Take.f
  rw [if_neg he]; rfl
end
end Go.Proofs.Ytdooampgkiodjaa.Cur
namespace Go.Proofs.Ytdooampgkiodjaa.Cur
set_option linter.unusedVariables false
set_option linter.unusedSimpArgs false
open Go Go.RowKit Go.Proofs.Ytdooampgkiodjaa.P Go.Proofs.Ytdooampgkiodjaa.B Go.Proofs.Ytdooampgkiodjaa.Num Go.Proofs.YtdooampgkiodjaaW.PrintWords Go.Proofs.YtdooampgkiodjaaW.PrintLast Go.Proofs.YtdooampgkiodjaaW.PrintMore
def At (s : ByteArray) (a : Int) (R : List UInt8) : Prop := s.size ≤ 140737488351232 ∧ ∃ pre : List UInt8, s.data.toList = pre ++ R ∧ a = pre.length
theorem At.start (s : ByteArray) (hs : s.size ≤ 140737488351232) : At s 0 s.data.toList := ⟨hs, [], rfl, rfl⟩
theorem At.size {s : ByteArray} {a : Int} {R : List UInt8} (h : At s a R) : (s.size : Int) = a + R.length := by
  obtain ⟨_, pre, he, rfl⟩ := h
  rw [← toList_length s, he]; simp
theorem At.nn {s : ByteArray} {a : Int} {R : List UInt8} (h : At s a R) : 0 ≤ a := by
  obtain ⟨_, pre, he, rfl⟩ := h
  omega
theorem At.big {s : ByteArray} {a : Int} {R : List UInt8} (h : At s a R) : (s.size : Int) ≤ 140737488351232 := by have := h.1; omega
theorem At.on {s : ByteArray} {a : Int} {m R : List UInt8} (h : At s a (m ++ R)) : At s (a + m.length) R := by
  obtain ⟨hs, pre, he, rfl⟩ := h
  exact ⟨hs, pre ++ m, by rw [he]; simp, by simp⟩
theorem take_at {s : ByteArray} {a n : Int} {m R : List UInt8} (h : At s a (m ++ R)) (hn : n = m.length) : cursor_Cursor_Take.f s a 0 n = some (strN m, s, a + m.length, 0) := by
  obtain ⟨hs, pre, he, rfl⟩ := h
  rw [take_list (pre := pre) (mid := m) (post := R) hs (by rw [he]; simp) rfl hn]
  simp
theorem take_fail {s : ByteArray} {a n : Int} {R : List UInt8} (h : At s a R) (hn : n < 0 ∨ (R.length : Int) < n) : cursor_Cursor_Take.f s a 0 n = some (strN [], s, a, 3) := by
  have h1 := h.size
  have h2 := h.nn
  exact take_short h.1 h2 (by omega) (by omega)
theorem left_at {s : ByteArray} {a : Int} {R : List UInt8} (h : At s a R) : wrap64 ((s.size : Int) - a) = R.length := by
  have h1 := h.size
  have h2 := h.nn
  have h3 := h.big
  rw [wrap_id (by omega) (by omega)]; omega
end Go.Proofs.Ytdooampgkiodjaa.Cur
namespace Go.Proofs.Ytdooampgkiodjaa.Cur
set_option linter.unusedVariables false
set_option linter.unusedSimpArgs false
open Go Go.RowKit Go.Proofs.Ytdooampgkiodjaa.P Go.Proofs.Ytdooampgkiodjaa.B Go.Proofs.Ytdooampgkiodjaa.Num Go.Proofs.YtdooampgkiodjaaW.PrintWords Go.Proofs.YtdooampgkiodjaaW.PrintLast Go.Proofs.YtdooampgkiodjaaW.PrintMore
section
variable {s : ByteArray} {at_ : Int} {pre mid post : List UInt8}
theorem two_list (hs : s.size ≤ 140737488351232) (h : s.data.toList = pre ++ mid ++ post) (ha : at_ = pre.length) (hn : mid.length = 2) (k : Nat) (hk : 8 < k) :
    cursor_Cursor_Two.f k s at_ 0 = some (((leN mid : Nat) : Int), s, (((pre ++ mid).length : Nat) : Int), 0) := by
  unfold cursor_Cursor_Two.f
  have hb := leN_lt mid
  rw [hn] at hb
  rw [take_list hs h ha (by omega)]
  simp only [Option.bind_some]
  rw [number_strN _ (by omega) _ hk]
  simp only [Option.bind_some]
  rw [u16_mod, show ((leN mid : Nat) : Int) % 65536 = (leN mid : Nat) by omega]
end
end Go.Proofs.Ytdooampgkiodjaa.Cur
namespace Go.Proofs.Ytdooampgkiodjaa.Cur
set_option linter.unusedVariables false
set_option linter.unusedSimpArgs false
open Go Go.RowKit Go.Proofs.Ytdooampgkiodjaa.P Go.Proofs.Ytdooampgkiodjaa.B Go.Proofs.Ytdooampgkiodjaa.Num Go.Proofs.YtdooampgkiodjaaW.PrintWords Go.Proofs.YtdooampgkiodjaaW.PrintLast Go.Proofs.YtdooampgkiodjaaW.PrintMore
theorem two_at {s : ByteArray} {a : Int} {m R : List UInt8} (h : At s a (m ++ R)) (hn : m.length = 2) (k : Nat) (hk : 8 < k) : cursor_Cursor_Two.f k s a 0 = some (((leN m : Nat) : Int), s, a + m.length, 0) := by
  obtain ⟨hs, pre, he, rfl⟩ := h
  rw [two_list (pre := pre) (mid := m) (post := R) hs (by rw [he]; simp) rfl hn k hk]
  simp
end Go.Proofs.Ytdooampgkiodjaa.Cur
namespace Go.Proofs.Ytdooampgkiodjaa.Cur
set_option linter.unusedVariables false
set_option linter.unusedSimpArgs false
open Go Go.RowKit Go.Proofs.Ytdooampgkiodjaa.P Go.Proofs.Ytdooampgkiodjaa.B Go.Proofs.Ytdooampgkiodjaa.Num Go.Proofs.YtdooampgkiodjaaW.PrintWords Go.Proofs.YtdooampgkiodjaaW.PrintLast Go.Proofs.YtdooampgkiodjaaW.PrintMore
section
variable {s : ByteArray} {at_ : Int} {pre mid post : List UInt8}
theorem four_list (hs : s.size ≤ 140737488351232) (h : s.data.toList = pre ++ mid ++ post) (ha : at_ = pre.length) (hn : mid.length = 4) (k : Nat) (hk : 8 < k) :
    cursor_Cursor_Four.f k s at_ 0 = some (((leN mid : Nat) : Int), s, (((pre ++ mid).length : Nat) : Int), 0) := by
  unfold cursor_Cursor_Four.f
  have hb := leN_lt mid
  rw [hn] at hb
  rw [take_list hs h ha (by omega)]
  simp only [Option.bind_some]
  rw [number_strN _ (by omega) _ hk]
  simp only [Option.bind_some]
  rw [show ((leN mid : Nat) : Int) % 4294967296 = (leN mid : Nat) by omega]
end
end Go.Proofs.Ytdooampgkiodjaa.Cur
namespace Go.Proofs.Ytdooampgkiodjaa.Cur
set_option linter.unusedVariables false
set_option linter.unusedSimpArgs false
open Go Go.RowKit Go.Proofs.Ytdooampgkiodjaa.P Go.Proofs.Ytdooampgkiodjaa.B Go.Proofs.Ytdooampgkiodjaa.Num Go.Proofs.YtdooampgkiodjaaW.PrintWords Go.Proofs.YtdooampgkiodjaaW.PrintLast Go.Proofs.YtdooampgkiodjaaW.PrintMore
theorem four_at {s : ByteArray} {a : Int} {m R : List UInt8} (h : At s a (m ++ R)) (hn : m.length = 4) (k : Nat) (hk : 8 < k) : cursor_Cursor_Four.f k s a 0 = some (((leN m : Nat) : Int), s, a + m.length, 0) := by
  obtain ⟨hs, pre, he, rfl⟩ := h
  rw [four_list (pre := pre) (mid := m) (post := R) hs (by rw [he]; simp) rfl hn k hk]
  simp
end Go.Proofs.Ytdooampgkiodjaa.Cur
namespace Go.Proofs.Ytdooampgkiodjaa.Cur
set_option linter.unusedVariables false
set_option linter.unusedSimpArgs false
open Go Go.RowKit Go.Proofs.Ytdooampgkiodjaa.P Go.Proofs.Ytdooampgkiodjaa.B Go.Proofs.Ytdooampgkiodjaa.Num Go.Proofs.YtdooampgkiodjaaW.PrintWords Go.Proofs.YtdooampgkiodjaaW.PrintLast Go.Proofs.YtdooampgkiodjaaW.PrintMore
section
variable {s : ByteArray} {at_ : Int} {pre mid post : List UInt8}
theorem eight_list (hs : s.size ≤ 140737488351232) (h : s.data.toList = pre ++ mid ++ post) (ha : at_ = pre.length) (hn : mid.length = 8) (k : Nat) (hk : 8 < k) :
    cursor_Cursor_Eight.f k s at_ 0 = some (((leN mid : Nat) : Int), s, (((pre ++ mid).length : Nat) : Int), 0) := by
  unfold cursor_Cursor_Eight.f
  have hb := leN_lt mid
  rw [hn] at hb
  rw [take_list hs h ha (by omega)]
  simp only [Option.bind_some]
  rw [number_strN _ (by omega) _ hk]
  simp only [Option.bind_some]
theorem eight_short (hs : s.size ≤ 140737488351232) (ha : 0 ≤ at_) (ha2 : at_ ≤ s.size) (hn : (s.size : Int) - at_ < 8) (k : Nat) (hk : 8 < k) : cursor_Cursor_Eight.f k s at_ 0 = some (0, s, at_, 3) := by
  unfold cursor_Cursor_Eight.f
  rw [take_short hs ha ha2 (.inr hn)]
  simp only [Option.bind_some]
  rw [number_strN _ (by simp) _ hk]
  rfl
theorem eight_bad {e : Int} (he : e ≠ 0) (k : Nat) (hk : 8 < k) : cursor_Cursor_Eight.f k s at_ e = some (0, s, at_, e) := by
  unfold cursor_Cursor_Eight.f
  rw [take_bad he]
  simp only [Option.bind_some]
  rw [number_strN _ (by simp) _ hk]
  rfl
end
end Go.Proofs.Ytdooampgkiodjaa.Cur
namespace Go.Proofs.Ytdooampgkiodjaa.Cur
set_option linter.unusedVariables false
set_option linter.unusedSimpArgs false
open Go Go.RowKit Go.Proofs.Ytdooampgkiodjaa.P Go.Proofs.Ytdooampgkiodjaa.B Go.Proofs.Ytdooampgkiodjaa.Num Go.Proofs.YtdooampgkiodjaaW.PrintWords Go.Proofs.YtdooampgkiodjaaW.PrintLast Go.Proofs.YtdooampgkiodjaaW.PrintMore
theorem eight_at {s : ByteArray} {a : Int} {m R : List UInt8} (h : At s a (m ++ R)) (hn : m.length = 8) (k : Nat) (hk : 8 < k) : cursor_Cursor_Eight.f k s a 0 = some (((leN m : Nat) : Int), s, a + m.length, 0) := by
  obtain ⟨hs, pre, he, rfl⟩ := h
  rw [eight_list (pre := pre) (mid := m) (post := R) hs (by rw [he]; simp) rfl hn k hk]
  simp
theorem eight_fail {s : ByteArray} {a : Int} {R : List UInt8} (h : At s a R) (hn : R.length < 8) (k : Nat) (hk : 8 < k) : cursor_Cursor_Eight.f k s a 0 = some (0, s, a, 3) := by
  have h1 := h.size
  have h2 := h.nn
  exact eight_short h.1 h2 (by omega) (by omega) k hk
end Go.Proofs.Ytdooampgkiodjaa.Cur
namespace Go.Proofs.Ytdooampgkiodjaa.Sb
set_option linter.unusedVariables false
set_option linter.unusedSimpArgs false
open Go Go.RowKit Go.Shelf Go.Proofs
def here : Ren := ⟨fun n => if n = 166 then 25 else if n = 169 then 29 else if n = 240 then 46 else if n = 276 then 55 else n, fun n => if n = 0 then 0 else if n = 3 then 3 else if n = 4 then 4 else if n = 5 then 5 else if n = 9 then 9 else if n = 20 then 20 else if n = 37 then 37 else if n = 70 then 59 else if n = 72 then 61 else if n = 75 then 64 else if n = 164 then 94 else if n = 127 then 86 else if n = 80 then 70 else n, fun n => n⟩
theorem lays166 : Lays.n166 Try.prog here where
  mixed := by kernel_rfl
  f166 := (show Try.prog.funcs[25]? = some (Body.n166 here) from Try.func25.trans (congrArg some (by kernel_rfl)))
  f240 := (show Try.prog.funcs[46]? = some (Body.n240 here) from Try.func46.trans (congrArg some (by kernel_rfl)))
  f276 := (show Try.prog.funcs[55]? = some (Body.n276 here) from Try.func55.trans (congrArg some (by kernel_rfl)))
  t0 := Try.underlying0
  a0 := Try.isAgg0
  z0 := Try.sizeOf0
  v0 := Try.zeroValue0
  t3 := Try.underlying3
  a3 := Try.isAgg3
  z3 := Try.sizeOf3
  v3 := Try.zeroValue3
  t4 := Try.underlying4
  a4 := Try.isAgg4
  z4 := Try.sizeOf4
  v4 := Try.zeroValue4
  t9 := Try.underlying9
  a9 := Try.isAgg9
  z9 := Try.sizeOf9
  v9 := Try.zeroValue9
  t20 := Try.underlying20
  a20 := Try.isAgg20
  z20 := Try.sizeOf20
  v20 := Try.zeroValue20
  t37 := Try.underlying37
  a37 := Try.isAgg37
  z37 := Try.sizeOf37
  v37 := Try.zeroValue37
  t70 := Try.underlying59
  a70 := Try.isAgg59
  z70 := Try.sizeOf59
  v70 := Try.zeroValue59
  t72 := Try.underlying61
  a72 := Try.isAgg61
  z72 := Try.sizeOf61
  v72 := Try.zeroValue61
  t75 := Try.underlying64
  a75 := Try.isAgg64
  z75 := Try.sizeOf64
  v75 := Try.zeroValue64
  t164 := Try.underlying94
  a164 := Try.isAgg94
  z164 := Try.sizeOf94
  v164 := Try.zeroValue94
theorem lays169 : Lays.n169 Try.prog here where
  mixed := by kernel_rfl
  f169 := (show Try.prog.funcs[29]? = some (Body.n169 here) from Try.func29.trans (congrArg some (by kernel_rfl)))
  t0 := Try.underlying0
  a0 := Try.isAgg0
  z0 := Try.sizeOf0
  v0 := Try.zeroValue0
  t3 := Try.underlying3
  a3 := Try.isAgg3
  z3 := Try.sizeOf3
  v3 := Try.zeroValue3
  t9 := Try.underlying9
  a9 := Try.isAgg9
  z9 := Try.sizeOf9
  v9 := Try.zeroValue9
  t37 := Try.underlying37
  a37 := Try.isAgg37
  z37 := Try.sizeOf37
  v37 := Try.zeroValue37
  t70 := Try.underlying59
  a70 := Try.isAgg59
  z70 := Try.sizeOf59
  v70 := Try.zeroValue59
  t72 := Try.underlying61
  a72 := Try.isAgg61
  z72 := Try.sizeOf61
  v72 := Try.zeroValue61
  t127 := Try.underlying86
  a127 := Try.isAgg86
  z127 := Try.sizeOf86
  v127 := Try.zeroValue86
theorem extra : Builder.Extra Try.prog here where
  sizeBuilder := by kernel_rfl
  liesBuilder := by kernel_rfl
  t5 := Try.underlying5
  a5 := Try.isAgg5
  z5 := Try.sizeOf5
  v5 := Try.zeroValue5
  infoByte := by kernel_rfl
  cellsByte := by kernel_rfl
  sizeByte := by kernel_rfl
  neB5 := by decide
theorem fresh (w : World) : Lib.IsBuilder 61 5 w.heap.size w.heap.size (Lib.byteCells []) (w.alloc (.cells #[.pointer none, .slice none 0 0] 61)) := Lib.fresh_isBuilder 61 5 w
end Go.Proofs.Ytdooampgkiodjaa.Sb
namespace Go.Proofs.Ytdooampgkiodjaa.Sb
set_option linter.unusedVariables false
set_option linter.unusedSimpArgs false
open Go Go.RowKit Go.Shelf Go.Proofs Go.Proofs.YtdooampgkiodjaaW.PrintWords Go.Proofs.YtdooampgkiodjaaW.PrintLast Go.Proofs.YtdooampgkiodjaaW.PrintMore
def Has (B b : Nat) (l : List UInt8) (w : World) : Prop := Lib.IsBuilderF 61 5 B b (Lib.byteCells l) w
def Oth (b : Nat) (w w' : World) : Prop := Lib.OthersKept 5 (some b) w w'
theorem has_fresh (w : World) : Has w.heap.size w.heap.size [] (w.alloc (.cells #[.pointer none, .slice none 0 0] 61)) := Lib.IsBuilderF.of (fresh w)
theorem hasAt_below {T e : TypeId} {B b : Nat} {p : Value} {bs : List Value} {W W' : World} (h : Lib.BuilderAtF T e B b p bs W) (hb : Below W.heap.size W W') : Lib.BuilderAtF T e B b p bs W' := by
  have hlt := h.lt
  obtain ⟨hB, v, hv, hown, hne⟩ := h
  exact ⟨hB, v, (hb.block b hlt).trans hv, hown.kept (row := none) ⟨hb.os, hb.tape, hb.output, hb.size, fun k hk _ => hb.block k hk⟩ (Classical.em _), hne⟩
theorem has_below {B b : Nat} {l : List UInt8} {W W' : World} (h : Has B b l W) (hb : Below W.heap.size W W') : Has B b l W' :=
  h.elim (fun x => .inl (hasAt_below x hb)) (fun x => .inr (hasAt_below x hb))
theorem has_lt {B b : Nat} {l : List UInt8} {w : World} (h : Has B b l w) : B ≤ b ∧ b < w.heap.size := h.elim (fun x => ⟨x.1, x.lt⟩) (fun x => ⟨x.1, x.lt⟩)
theorem oth_blk {b g : Nat} {w w' : World} {cs : Array Value} {t : TypeId} {fr : Nat × Nat} (h : Oth b w w') (hg : w.heap[g]? = some (.cells cs t fr)) (hne : g ≠ b) (ht : t ≠ 5) : w'.heap[g]? = some (.cells cs t fr) :=
  h g _ hg (fun e => hne (Option.some.inj e)) (fun c fz e => ht (by injection e))
theorem writeK_calls (B b : Nat) (l : List UInt8) (s : ByteArray) (w : World) (h : Has B b l w) (hlen : l.length + s.size ≤ 140737488355328) (hBw : B ≤ w.heap.size) :
    Calls Try.prog 25 #[.pointer (some ⟨b, 0, none⟩), .string s] w fun e w' => e = .returned (.tuple #[.int .i64 s.size, .nilIface]) ∧ Has B b (l ++ s.data.toList) w' ∧ Below B w w' ∧ Oth b w w' :=
  (Any.Builder_WriteString_k lays166 extra B b _ s w h (by rw [Lib.byteCells_length]; exact hlen) hBw).mono fun e w' ⟨he, hat, hb, ho⟩ => ⟨he, by
    have hq : Lib.byteCells l ++ Lib.strCells s = Lib.byteCells (l ++ s.data.toList) := by rw [Lib.strCells_eq]; simp [Lib.byteCells]
    rw [hq] at hat; exact .inr hat, hb, ho⟩
theorem stringK_calls (B b : Nat) (l : List UInt8) (w : World) (h : Has B b l w) (hBw : B ≤ w.heap.size) :
    Calls Try.prog 29 #[.pointer (some ⟨b, 0, none⟩)] w fun e w' => e = .returned (.string ⟨l.toArray⟩) ∧ Has B b l w' ∧ Below B w w' ∧ Oth b w w' :=
  Any.Builder_String_any_k lays169 extra B b l w h hBw
end Go.Proofs.Ytdooampgkiodjaa.Sb
namespace Go.Proofs.Ytdooampgkiodjaa.Num
set_option linter.unusedVariables false
set_option linter.unusedSimpArgs false
open Go Go.RowKit Go.Proofs.Ytdooampgkiodjaa.P Go.Proofs.Ytdooampgkiodjaa.B Go.Proofs.YtdooampgkiodjaaW.PrintWords Go.Proofs.YtdooampgkiodjaaW.PrintLast Go.Proofs.YtdooampgkiodjaaW.PrintMore
theorem of_loop (n c : Nat) (hn : n < 2 ^ 64) : ∀ (d k i : Nat) (xs : List Int), i + d = min c 8 → xs = (ofN i n).map (fun b => (b.toNat : Int)) ++ List.replicate (c - i) 0 → d < k →
    cursor_Of.l0 k (n : Int) xs ((min c 8 : Nat) : Int) (i : Int) = some (strN (ofN c n)) := by
  intro d
  induction d with
  | zero =>
    intro k i xs hd hx hk
    obtain ⟨k, rfl⟩ : ∃ m, k = m + 1 := ⟨k - 1, by omega⟩
    have hs : strOfNums xs = strN (ofN c n) := by
      apply strN_eq
      rw [hx]
      apply List.ext_getElem?
      intro j
      by_cases h1 : j < i
      · rw [List.getElem?_append_left (by simpa [ofN_length] using h1)]
        simp only [List.getElem?_map]
        rw [ofN_get _ _ _ h1, ofN_get _ _ _ (by omega)]
      · rw [List.getElem?_append_right (by simp [ofN_length]; omega)]
        by_cases h2 : j < c
        · simp only [List.getElem?_map]
          rw [ofN_get _ _ _ h2]
          have : n / 256 ^ j = 0 := by
            apply Nat.div_eq_of_lt
            have : 256 ^ 8 ≤ 256 ^ j := Nat.pow_le_pow_right (by decide) (by omega)
            omega
          simp only [Option.map_some, this, List.length_map, ofN_length, List.getElem?_replicate]
          rw [if_pos (by omega)]
          rfl
        · rw [List.getElem?_eq_none (by simp [ofN_length]; omega), List.getElem?_eq_none (by simp [ofN_length]; omega)]
    simp only [cursor_Of.l0]
    rw [if_neg (by omega), hs]
  | succ d ih =>
    intro k i xs hd hx hk
    obtain ⟨k, rfl⟩ : ∃ m, k = m + 1 := ⟨k - 1, by omega⟩
    have hlen : xs.length = c := by rw [hx]; simp [ofN_length]; omega
    have h8 : wrap64 (8 * (i : Int)) = ((8 * i : Nat) : Int) := by rw [wrap_id (by omega) (by omega)]; omega
    simp only [cursor_Of.l0]
    rw [if_pos (by omega), h8, if_pos (by omega), if_pos (by omega), if_pos (by omega), wrap_id (by omega) (by omega)]
    have e1 : shr .u64 (n : Int) ((8 * i : Nat) : Int) % 256 = ((n / 256 ^ i % 256 : Nat) : Int) := by
      unfold shr
      rw [Int.toNat_natCast, Nat.min_eq_left (by simp [IntKind.bits]; omega), show (256 : Nat) ^ i = 2 ^ (8 * i) by rw [Nat.pow_mul]]
      simp
    rw [e1, Int.toNat_natCast]
    refine ih k (i + 1) _ (by omega) ?_ (by omega)
    rw [hx]
    apply List.ext_getElem?
    intro j
    rw [List.getElem?_set]
    by_cases h1 : j < i
    · rw [if_neg (by omega), List.getElem?_append_left (by simpa [ofN_length] using h1), List.getElem?_append_left (by simp [ofN_length]; omega)]
      simp only [List.getElem?_map]
      rw [ofN_get _ _ _ h1, ofN_get _ _ _ (by omega)]
    · by_cases h2 : i = j
      · subst h2
        rw [if_pos rfl, if_pos (by simp [ofN_length]; omega), List.getElem?_append_left (by simp [ofN_length])]
        simp only [List.getElem?_map]
        rw [ofN_get _ _ _ (by omega)]
        simp
      · rw [if_neg h2, List.getElem?_append_right (by simp [ofN_length]; omega), List.getElem?_append_right (by simp [ofN_length]; omega)]
        simp only [List.length_map, ofN_length, List.getElem?_replicate]
        by_cases h3 : j < c
        · rw [if_pos (by omega), if_pos (by omega)]
        · rw [if_neg (by omega), if_neg (by omega)]
theorem of_eq (n : Nat) (hn : n < 2 ^ 64) (a1 : Int) (k : Nat) (hk : 64 < k) : cursor_Of.f k (n : Int) a1 = some (strN (ofI n a1)) := by
  have hm : mn (mx a1 0) 64 = ((min a1.toNat 64 : Nat) : Int) := by unfold mn mx; omega
  unfold cursor_Of.f ofI
  rw [hm, if_pos (by omega), if_pos (by omega)]
  simp only [Option.bind_some, List.length_replicate, Int.toNat_natCast]
  have hm2 : mn ((min a1.toNat 64 : Nat) : Int) 8 = ((min (min a1.toNat 64) 8 : Nat) : Int) := by unfold mn; omega
  rw [hm2]
  exact of_loop n (min a1.toNat 64) hn (min (min a1.toNat 64) 8) k 0 _ (by omega) (by simp [ofN]) (by omega)
end Go.Proofs.Ytdooampgkiodjaa.Num
namespace Go.Proofs.Ytdooampgkiodjaa.Num
set_option linter.unusedVariables false
set_option linter.unusedSimpArgs false
open Go Go.RowKit Go.Proofs.Ytdooampgkiodjaa.P Go.Proofs.Ytdooampgkiodjaa.B Go.Proofs.YtdooampgkiodjaaW.PrintWords Go.Proofs.YtdooampgkiodjaaW.PrintLast Go.Proofs.YtdooampgkiodjaaW.PrintMore
theorem two_eq (n : Nat) (hn : n < 2 ^ 16) (k : Nat) (hk : 64 < k) : cursor_Two.f k (n : Int) = some (strN (ofN 2 n)) := by
  unfold cursor_Two.f
  rw [u64_id (by omega) (by omega), of_eq n (by omega) 2 k hk]; rfl
end Go.Proofs.Ytdooampgkiodjaa.Num
namespace Go.Proofs.Ytdooampgkiodjaa.Num
set_option linter.unusedVariables false
set_option linter.unusedSimpArgs false
open Go Go.RowKit Go.Proofs.Ytdooampgkiodjaa.P Go.Proofs.Ytdooampgkiodjaa.B Go.Proofs.YtdooampgkiodjaaW.PrintWords Go.Proofs.YtdooampgkiodjaaW.PrintLast Go.Proofs.YtdooampgkiodjaaW.PrintMore
theorem four_eq (n : Nat) (hn : n < 2 ^ 32) (k : Nat) (hk : 64 < k) : cursor_Four.f k (n : Int) = some (strN (ofN 4 n)) := by
  unfold cursor_Four.f
  rw [u64_id (by omega) (by omega), of_eq n (by omega) 4 k hk]; rfl
end Go.Proofs.Ytdooampgkiodjaa.Num
namespace Go.Proofs.Ytdooampgkiodjaa.Num
set_option linter.unusedVariables false
set_option linter.unusedSimpArgs false
open Go Go.RowKit Go.Proofs.Ytdooampgkiodjaa.P Go.Proofs.Ytdooampgkiodjaa.B Go.Proofs.YtdooampgkiodjaaW.PrintWords Go.Proofs.YtdooampgkiodjaaW.PrintLast Go.Proofs.YtdooampgkiodjaaW.PrintMore
theorem eight_eq (n : Nat) (hn : n < 2 ^ 64) (k : Nat) (hk : 64 < k) : cursor_Eight.f k (n : Int) = some (strN (ofN 8 n)) := by
  unfold cursor_Eight.f
  rw [of_eq n hn 8 k hk]; rfl
end Go.Proofs.Ytdooampgkiodjaa.Num
namespace Go.Proofs.Ytdooampgkiodjaa.P
set_option linter.unusedVariables false
set_option linter.unusedSimpArgs false
open Go Go.RowKit Go.Proofs.Ytdooampgkiodjaa.B Go.Proofs.Ytdooampgkiodjaa.Num Go.Proofs.Ytdooampgkiodjaa.Sb Go.Proofs.YtdooampgkiodjaaW.PrintWords Go.Proofs.YtdooampgkiodjaaW.PrintLast Go.Proofs.YtdooampgkiodjaaW.PrintMore
def endB (n z o : Nat) (c : List UInt8) : List UInt8 := [80, 75, 5, 6] ++ ofN 2 0 ++ ofN 2 0 ++ ofN 2 n ++ ofN 2 n ++ ofN 4 z ++ ofN 4 o ++ (ofN 2 c.length ++ c)
def wideB (n z o : Nat) : List UInt8 := ([80, 75, 6, 6] ++ ofN 8 44 ++ ofN 2 45 ++ ofN 2 45 ++ ofN 4 0 ++ ofN 4 0) ++ (ofN 8 n ++ ofN 8 n ++ ofN 8 z ++ ofN 8 o) ++ ([80, 75, 6, 7] ++ ofN 4 0 ++ ofN 8 ((o + z) % 18446744073709551616) ++ ofN 4 1)
def tailGo (n z o : Nat) (c : ByteArray) (wide : Bool) : ByteArray × Int :=
  if 65535 < c.size then (⟨#[]⟩, 5)
  else if wide = true then (strN (wideB n z o ++ endB 65535 4294967295 4294967295 c.data.toList), 0)
  else if 65535 ≤ n then (⟨#[]⟩, 8) else if 4294967295 ≤ z then (⟨#[]⟩, 8) else if 4294967295 ≤ o then (⟨#[]⟩, 8)
  else (strN (endB n z o c.data.toList), 0)
def tail_Print.f (a0_0 a0_1 a0_2 a0_3 : Int) (a0_4 : ByteArray) (a0_5 : Bool) : Option (ByteArray × Int) :=
  if (0 ≤ a0_1 ∧ a0_1 < 18446744073709551616) ∧ (0 ≤ a0_2 ∧ a0_2 < 18446744073709551616) ∧ (0 ≤ a0_3 ∧ a0_3 < 18446744073709551616) then some (tailGo a0_1.toNat a0_2.toNat a0_3.toNat a0_4 a0_5) else none
set_option maxHeartbeats 8000000 in
set_option maxRecDepth 100000 in
theorem tail_Print.calls (a0_0 a0_1 a0_2 a0_3 : Int) (a0_4 : ByteArray) (a0_5 : Bool) (r1 : ByteArray) (r2 : Int) (w : World) (h : tail_Print.f a0_0 a0_1 a0_2 a0_3 a0_4 a0_5 = some (r1, r2)) :
    Calls Try.prog 10 #[.agg #[.int .i64 a0_0, .int .u64 a0_1, .int .u64 a0_2, .int .u64 a0_3, .string a0_4, .bool a0_5]] w fun e w' => e = .returned (.tuple #[.string r1, .int .i64 r2]) ∧ Below w.heap.size w w' := by
  unfold tail_Print.f at h
  split at h
  case isFalse => cases h
  case isTrue hb =>
  obtain ⟨⟨b1, b2⟩, ⟨b3, b4⟩, ⟨b5, b6⟩⟩ := hb
  have hres : tailGo a0_1.toNat a0_2.toNat a0_3.toNat a0_4 a0_5 = (r1, r2) := Option.some.inj h
  obtain ⟨f1, rfl⟩ : ∃ x : Nat, a0_1 = (x : Int) := ⟨a0_1.toNat, by omega⟩
  obtain ⟨f2, rfl⟩ : ∃ x : Nat, a0_2 = (x : Int) := ⟨a0_2.toNat, by omega⟩
  obtain ⟨f3, rfl⟩ : ∃ x : Nat, a0_3 = (x : Int) := ⟨a0_3.toNat, by omega⟩
  simp only [Int.toNat_natCast] at hres
  have B1 : f1 < 18446744073709551616 := by omega
  have B2 : f2 < 18446744073709551616 := by omega
  have B3 : f3 < 18446744073709551616 := by omega
  clear h b1 b2 b3 b4 b5 b6
  unfold tailGo at hres
  have hb0 := below_alloc (Below.refl w.heap.size w) (.cells #[.int .i64 a0_0, .int .u64 (f1 : Int), .int .u64 (f2 : Int), .int .u64 (f3 : Int), .string a0_4, .bool a0_5] 25)
  have hx0 := heap_alloc_new w (.cells #[.int .i64 a0_0, .int .u64 (f1 : Int), .int .u64 (f2 : Int), .int .u64 (f3 : Int), .string a0_4, .bool a0_5] 25)
  have hcc4 := blk_cell hx0 4
  by_cases hbig : 65535 < a0_4.size
  · rw [if_pos hbig] at hres
    obtain ⟨rfl, rfl⟩ : (⟨#[]⟩ : ByteArray) = r1 ∧ 5 = r2 := by simpa using hres
    have hd : decide (65535 < a0_4.size) = true := decide_eq_true hbig
    go_enter Try.func10, Try.ntmps10
    go_wp2
    first | go_ret2 | go_ret
    exact ⟨rfl, hb0⟩
  rw [if_neg hbig] at hres
  have hd : decide (65535 < a0_4.size) = false := decide_eq_false hbig
  have HB0 := Aside0.mk hb0
  have HX0 := Aside0.mk hx0
  clear hb0 hx0 hcc4
  have S2 := Aside0.mk (fun n : Nat => (show (strN (ofN 2 n)).size = 2 from ofN_length 2 n))
  have S4 := Aside0.mk (fun n : Nat => (show (strN (ofN 4 n)).size = 4 from ofN_length 4 n))
  have S8 := Aside0.mk (fun n : Nat => (show (strN (ofN 8 n)).size = 8 from ofN_length 8 n))
  have M5 := Aside0.mk (show (⟨#[80, 75, 5, 6]⟩ : ByteArray).size = 4 from rfl)
  have M6 := Aside0.mk (show (⟨#[80, 75, 6, 6]⟩ : ByteArray).size = 4 from rfl)
  have M7 := Aside0.mk (show (⟨#[80, 75, 6, 7]⟩ : ByteArray).size = 4 from rfl)
  have E44 := Aside0.mk (show cursor_Eight.f 65 44 = _ from eight_eq 44 (by decide) 65 (by decide))
  have E1 := Aside0.mk (eight_eq f1 (by omega) 65 (by decide))
  have E2 := Aside0.mk (eight_eq f2 (by omega) 65 (by decide))
  have E3 := Aside0.mk (eight_eq f3 (by omega) 65 (by decide))
  have ES := Aside0.mk (eight_eq ((f3 + f2) % 18446744073709551616) (by omega) 65 (by decide))
  have T45 := Aside0.mk (show cursor_Two.f 65 45 = _ from two_eq 45 (by decide) 65 (by decide))
  have T0 := Aside0.mk (show cursor_Two.f 65 0 = _ from two_eq 0 (by decide) 65 (by decide))
  have TM := Aside0.mk (show cursor_Two.f 65 65535 = _ from two_eq 65535 (by decide) 65 (by decide))
  have TL := Aside0.mk (two_eq a0_4.size (by omega) 65 (by decide))
  have F0 := Aside0.mk (show cursor_Four.f 65 0 = _ from four_eq 0 (by decide) 65 (by decide))
  have F1 := Aside0.mk (show cursor_Four.f 65 1 = _ from four_eq 1 (by decide) 65 (by decide))
  have FM := Aside0.mk (show cursor_Four.f 65 4294967295 = _ from four_eq 4294967295 (by decide) 65 (by decide))
  have HRES := Aside0.mk hres
  clear hres
  have hsum : IntKind.u64.wrap ((f3 : Int) + (f2 : Int)) = (((f3 + f2) % 18446744073709551616 : Nat) : Int) := by rw [u64_mod]; omega
  have hcl : IntKind.u16.wrap (a0_4.size : Int) = (a0_4.size : Int) := by rw [u16_mod]; omega
  have hS2 := S2.out
  have hS4 := S4.out
  have hS8 := S8.out
  have hq := eq_true (show 2 + a0_4.size ≤ 9223372036854775807 by omega)
  have hq2 := eq_true (show a0_4.size ≤ 9223372036854775805 by omega)
  have hq3 : (9223372036854775807 < 2 + a0_4.size) = False := eq_false (by omega)
  have hq4 : (9223372036854775805 < a0_4.size) = False := eq_false (by omega)
  cases a0_5 with
  | true =>
    go_enter Try.func10, Try.ntmps10
    go_upto_region 6 with (fail)
    have H := Aside0.mk (blk_alloc (heap_alloc_new w (.cells #[.int .i64 a0_0, .int .u64 (f1 : Int), .int .u64 (f2 : Int), .int .u64 (f3 : Int), .string a0_4, .bool true] 25)) (.cells #[.pointer none, .slice none 0 0] 61))
    have HI := Aside0.mk (has_fresh (w.alloc (.cells #[.int .i64 a0_0, .int .u64 (f1 : Int), .int .u64 (f2 : Int), .int .u64 (f3 : Int), .string a0_4, .bool true] 25)))
    have HB := Aside0.mk (below_alloc (below_alloc (Below.refl w.heap.size w) (.cells #[.int .i64 a0_0, .int .u64 (f1 : Int), .int .u64 (f2 : Int), .int .u64 (f3 : Int), .string a0_4, .bool true] 25)) (.cells #[.pointer none, .slice none 0 0] 61))
    have hgs : (w.alloc (.cells #[.int .i64 a0_0, .int .u64 (f1 : Int), .int .u64 (f2 : Int), .int .u64 (f3 : Int), .string a0_4, .bool true] 25)).heap.size = w.heap.size + 1 := by simp
    rw [hgs] at HI
    generalize hW : (w.alloc (.cells #[.int .i64 a0_0, .int .u64 (f1 : Int), .int .u64 (f2 : Int), .int .u64 (f3 : Int), .string a0_4, .bool true] 25)).alloc (.cells #[.pointer none, .slice none 0 0] 61) = W0 at H HI HB ⊢
    obtain ⟨gS, hgS⟩ : ∃ g, w.heap.size + 1 = g := ⟨_, rfl⟩
    obtain ⟨gX, hgX⟩ : ∃ g, w.heap.size = g := ⟨_, rfl⟩
    have HG := Aside0.mk (show gX = w.heap.size ∧ gS = w.heap.size + 1 ∧ gX ≠ gS ∧ w.heap.size ≤ gS by omega)
    rw [hgS] at HI ⊢
    rw [hgX] at H ⊢
    clear hgs hW hgS hgX
    have hc0 := blk_cell H.out 0
    have hc1 := blk_cell H.out 1
    have hc2 := blk_cell H.out 2
    have hc3 := blk_cell H.out 3
    have hc4 := blk_cell H.out 4
    have hc5 := blk_cell H.out 5
    go_quiet (fail)
    go_upto_region 10 with (first
          | (go_at_call 26; refine (cursor_Eight.calls 65 _ _ _ E44.out).mono ?_; rintro e w1 ⟨rfl, hb⟩; have H := Aside0.mk (blk_below (by exact H.out) hb); have HI := Aside0.mk (has_below (by exact HI.out) hb); have HB := Aside0.mk (below_step (by first | exact HB.out | exact HB.out.drew | exact pw_below_drewN HB.out _) hb); clear hb)
          | (go_at_call 27; refine (cursor_Two.calls 65 _ _ _ T45.out).mono ?_; rintro e w1 ⟨rfl, hb⟩; have H := Aside0.mk (blk_below (by exact H.out) hb); have HI := Aside0.mk (has_below (by exact HI.out) hb); have HB := Aside0.mk (below_step (by first | exact HB.out | exact HB.out.drew | exact pw_below_drewN HB.out _) hb); clear hb)
          | (go_at_call 28; refine (cursor_Four.calls 65 _ _ _ F0.out).mono ?_; rintro e w1 ⟨rfl, hb⟩; have H := Aside0.mk (blk_below (by exact H.out) hb); have HI := Aside0.mk (has_below (by exact HI.out) hb); have HB := Aside0.mk (below_step (by first | exact HB.out | exact HB.out.drew | exact pw_below_drewN HB.out _) hb); clear hb)
          | (go_at_call 25; refine (writeK_calls gS gS _ _ _ HI.out (by (try simp [S2.out, S4.out, S8.out, M5.out, M6.out, M7.out]) <;> omega) (by exact Nat.le_of_lt (has_lt HI.out).2)).mono ?_; rintro e w1 ⟨rfl, hat, hb, ho⟩; have H := Aside0.mk (oth_blk ho (by exact H.out) (by have := HG.out; omega) (by decide)); have HI := Aside0.mk hat; have HB := Aside0.mk ((by first | exact HB.out | exact HB.out.drew | exact pw_below_drewN HB.out _ : Below w.heap.size w _).trans (hb.mono (by have := HG.out; omega))); clear hat hb ho))
    go_region_held3 (fun W' => W'.heap[gX]? = some (.cells #[.int .i64 a0_0, .int .u64 (f1 : Int), .int .u64 (f2 : Int), .int .u64 (f3 : Int), .string a0_4, .bool true] 25 (0, 0)) ∧ W'.cell? ⟨gX, 0, none⟩ = some (.int .i64 a0_0) ∧ W'.cell? ⟨gX, 1, none⟩ = some (.int .u64 (f1 : Int)) ∧ W'.cell? ⟨gX, 2, none⟩ = some (.int .u64 (f2 : Int)) ∧ W'.cell? ⟨gX, 3, none⟩ = some (.int .u64 (f3 : Int)) ∧ W'.cell? ⟨gX, 4, none⟩ = some (.string a0_4) ∧ W'.cell? ⟨gX, 5, none⟩ = some (.bool true))
        (exact ⟨H.out, blk_cell H.out 0, blk_cell H.out 1, blk_cell H.out 2, blk_cell H.out 3, blk_cell H.out 4, blk_cell H.out 5⟩)
        (first
          | (go_at_call 26; refine (cursor_Eight.calls 65 _ _ _ E1.out).mono ?_; rintro e w1 ⟨rfl, hb⟩; have H := Aside0.mk (blk_below (by exact H.out) hb); have HI := Aside0.mk (has_below (by exact HI.out) hb); have HB := Aside0.mk (below_step (by first | exact HB.out | exact HB.out.drew | exact pw_below_drewN HB.out _) hb); clear hb)
          | (go_at_call 26; refine (cursor_Eight.calls 65 _ _ _ E2.out).mono ?_; rintro e w1 ⟨rfl, hb⟩; have H := Aside0.mk (blk_below (by exact H.out) hb); have HI := Aside0.mk (has_below (by exact HI.out) hb); have HB := Aside0.mk (below_step (by first | exact HB.out | exact HB.out.drew | exact pw_below_drewN HB.out _) hb); clear hb)
          | (go_at_call 26; refine (cursor_Eight.calls 65 _ _ _ E3.out).mono ?_; rintro e w1 ⟨rfl, hb⟩; have H := Aside0.mk (blk_below (by exact H.out) hb); have HI := Aside0.mk (has_below (by exact HI.out) hb); have HB := Aside0.mk (below_step (by first | exact HB.out | exact HB.out.drew | exact pw_below_drewN HB.out _) hb); clear hb)
          | (go_at_call 25; refine (writeK_calls gS gS _ _ _ HI.out (by (try simp [S2.out, S4.out, S8.out, M5.out, M6.out, M7.out]) <;> omega) (by exact Nat.le_of_lt (has_lt HI.out).2)).mono ?_; rintro e w1 ⟨rfl, hat, hb, ho⟩; have H := Aside0.mk (oth_blk ho (by exact H.out) (by have := HG.out; omega) (by decide)); have HI := Aside0.mk hat; have HB := Aside0.mk ((by first | exact HB.out | exact HB.out.drew | exact pw_below_drewN HB.out _ : Below w.heap.size w _).trans (hb.mono (by have := HG.out; omega))); clear hat hb ho))
    go_upto_region 11 with (fail)
    go_region_held3 (fun W' => W'.heap[gX]? = some (.cells #[.int .i64 a0_0, .int .u64 (f1 : Int), .int .u64 (f2 : Int), .int .u64 (f3 : Int), .string a0_4, .bool true] 25 (0, 0)) ∧ W'.cell? ⟨gX, 0, none⟩ = some (.int .i64 a0_0) ∧ W'.cell? ⟨gX, 1, none⟩ = some (.int .u64 (f1 : Int)) ∧ W'.cell? ⟨gX, 2, none⟩ = some (.int .u64 (f2 : Int)) ∧ W'.cell? ⟨gX, 3, none⟩ = some (.int .u64 (f3 : Int)) ∧ W'.cell? ⟨gX, 4, none⟩ = some (.string a0_4) ∧ W'.cell? ⟨gX, 5, none⟩ = some (.bool true))
        (exact ⟨H.out, blk_cell H.out 0, blk_cell H.out 1, blk_cell H.out 2, blk_cell H.out 3, blk_cell H.out 4, blk_cell H.out 5⟩)
        (first
          | (go_at_call 28; refine (cursor_Four.calls 65 _ _ _ F0.out).mono ?_; rintro e w1 ⟨rfl, hb⟩; have H := Aside0.mk (blk_below (by exact H.out) hb); have HI := Aside0.mk (has_below (by exact HI.out) hb); have HB := Aside0.mk (below_step (by first | exact HB.out | exact HB.out.drew | exact pw_below_drewN HB.out _) hb); clear hb)
          | (go_at_call 26; refine (cursor_Eight.calls 65 _ _ _ ES.out).mono ?_; rintro e w1 ⟨rfl, hb⟩; have H := Aside0.mk (blk_below (by exact H.out) hb); have HI := Aside0.mk (has_below (by exact HI.out) hb); have HB := Aside0.mk (below_step (by first | exact HB.out | exact HB.out.drew | exact pw_below_drewN HB.out _) hb); clear hb)
          | (go_at_call 28; refine (cursor_Four.calls 65 _ _ _ F1.out).mono ?_; rintro e w1 ⟨rfl, hb⟩; have H := Aside0.mk (blk_below (by exact H.out) hb); have HI := Aside0.mk (has_below (by exact HI.out) hb); have HB := Aside0.mk (below_step (by first | exact HB.out | exact HB.out.drew | exact pw_below_drewN HB.out _) hb); clear hb)
          | (go_at_call 25; refine (writeK_calls gS gS _ _ _ HI.out (by (try simp [S2.out, S4.out, S8.out, M5.out, M6.out, M7.out]) <;> omega) (by exact Nat.le_of_lt (has_lt HI.out).2)).mono ?_; rintro e w1 ⟨rfl, hat, hb, ho⟩; have H := Aside0.mk (oth_blk ho (by exact H.out) (by have := HG.out; omega) (by decide)); have HI := Aside0.mk hat; have HB := Aside0.mk ((by first | exact HB.out | exact HB.out.drew | exact pw_below_drewN HB.out _ : Below w.heap.size w _).trans (hb.mono (by have := HG.out; omega))); clear hat hb ho))
    go_upto_region 13 with (first
          | (go_at_call 27; refine (cursor_Two.calls 65 _ _ _ T0.out).mono ?_; rintro e w1 ⟨rfl, hb⟩; have H := Aside0.mk (blk_below (by exact H.out) hb); have HI := Aside0.mk (has_below (by exact HI.out) hb); have HB := Aside0.mk (below_step (by first | exact HB.out | exact HB.out.drew | exact pw_below_drewN HB.out _) hb); clear hb)
          | (go_at_call 27; refine (cursor_Two.calls 65 _ _ _ TM.out).mono ?_; rintro e w1 ⟨rfl, hb⟩; have H := Aside0.mk (blk_below (by exact H.out) hb); have HI := Aside0.mk (has_below (by exact HI.out) hb); have HB := Aside0.mk (below_step (by first | exact HB.out | exact HB.out.drew | exact pw_below_drewN HB.out _) hb); clear hb)
          | (go_at_call 28; refine (cursor_Four.calls 65 _ _ _ FM.out).mono ?_; rintro e w1 ⟨rfl, hb⟩; have H := Aside0.mk (blk_below (by exact H.out) hb); have HI := Aside0.mk (has_below (by exact HI.out) hb); have HB := Aside0.mk (below_step (by first | exact HB.out | exact HB.out.drew | exact pw_below_drewN HB.out _) hb); clear hb)
          | (go_at_call 25; refine (writeK_calls gS gS _ _ _ HI.out (by (try simp [S2.out, S4.out, S8.out, M5.out, M6.out, M7.out]) <;> omega) (by exact Nat.le_of_lt (has_lt HI.out).2)).mono ?_; rintro e w1 ⟨rfl, hat, hb, ho⟩; have H := Aside0.mk (oth_blk ho (by exact H.out) (by have := HG.out; omega) (by decide)); have HI := Aside0.mk hat; have HB := Aside0.mk ((by first | exact HB.out | exact HB.out.drew | exact pw_below_drewN HB.out _ : Below w.heap.size w _).trans (hb.mono (by have := HG.out; omega))); clear hat hb ho))
    go_region_held3 (fun W' => W'.heap[gX]? = some (.cells #[.int .i64 a0_0, .int .u64 (f1 : Int), .int .u64 (f2 : Int), .int .u64 (f3 : Int), .string a0_4, .bool true] 25 (0, 0)) ∧ W'.cell? ⟨gX, 0, none⟩ = some (.int .i64 a0_0) ∧ W'.cell? ⟨gX, 1, none⟩ = some (.int .u64 (f1 : Int)) ∧ W'.cell? ⟨gX, 2, none⟩ = some (.int .u64 (f2 : Int)) ∧ W'.cell? ⟨gX, 3, none⟩ = some (.int .u64 (f3 : Int)) ∧ W'.cell? ⟨gX, 4, none⟩ = some (.string a0_4) ∧ W'.cell? ⟨gX, 5, none⟩ = some (.bool true))
        (exact ⟨H.out, blk_cell H.out 0, blk_cell H.out 1, blk_cell H.out 2, blk_cell H.out 3, blk_cell H.out 4, blk_cell H.out 5⟩)
        (first
          | (go_at_call 27; refine (cursor_Two.calls 65 _ _ _ TL.out).mono ?_; rintro e w1 ⟨rfl, hb⟩; have H := Aside0.mk (blk_below (by exact H.out) hb); have HI := Aside0.mk (has_below (by exact HI.out) hb); have HB := Aside0.mk (below_step (by first | exact HB.out | exact HB.out.drew | exact pw_below_drewN HB.out _) hb); clear hb)
          | (go_at_call 25; refine (writeK_calls gS gS _ _ _ HI.out (by (try simp [S2.out, S4.out, S8.out, M5.out, M6.out, M7.out]) <;> omega) (by exact Nat.le_of_lt (has_lt HI.out).2)).mono ?_; rintro e w1 ⟨rfl, hat, hb, ho⟩; have H := Aside0.mk (oth_blk ho (by exact H.out) (by have := HG.out; omega) (by decide)); have HI := Aside0.mk hat; have HB := Aside0.mk ((by first | exact HB.out | exact HB.out.drew | exact pw_below_drewN HB.out _ : Below w.heap.size w _).trans (hb.mono (by have := HG.out; omega))); clear hat hb ho))
    go_wp2_with (go_at_call 29; refine (stringK_calls gS gS _ _ HI.out (by exact Nat.le_of_lt (has_lt HI.out).2)).mono ?_; rintro e w1 ⟨rfl, hat, hb, ho⟩; have HB := Aside0.mk (HB.out.trans (hb.mono (by have := HG.out; omega))); clear hat hb ho)
    have hr := HRES.out
    simp only [if_true] at hr
    obtain ⟨he1, he2⟩ := Prod.mk.inj hr
    first | go_ret2 | go_ret
    refine ⟨?_, HB.out⟩
    rw [← he1, ← he2]
    simp [strN, endB, wideB]
  | false =>
    have hr0 := HRES.out
    simp only [Bool.false_eq_true, if_false] at hr0
    clear HRES
    by_cases hn : 65535 ≤ f1
    · rw [if_pos hn] at hr0
      obtain ⟨rfl, rfl⟩ : (⟨#[]⟩ : ByteArray) = r1 ∧ 8 = r2 := by simpa using hr0
      have hdn : decide ((65535 : Int) ≤ (f1 : Int)) = true := decide_eq_true (by omega)
      clear hr0 hn B1 B2 B3 hsum hcl hS2 hS4 hS8 hq hq2 hq3 hq4
      go_enter Try.func10, Try.ntmps10
      go_wp2
      first | go_ret2 | go_ret
      exact ⟨rfl, HB0.out⟩
    rw [if_neg hn] at hr0
    have hdn : decide ((65535 : Int) ≤ (f1 : Int)) = false := decide_eq_false (by omega)
    by_cases hz : 4294967295 ≤ f2
    · rw [if_pos hz] at hr0
      obtain ⟨rfl, rfl⟩ : (⟨#[]⟩ : ByteArray) = r1 ∧ 8 = r2 := by simpa using hr0
      have hdz : decide ((4294967295 : Int) ≤ (f2 : Int)) = true := decide_eq_true (by omega)
      clear hr0 hz B1 B2 B3 hsum hcl hS2 hS4 hS8 hq hq2 hq3 hq4
      go_enter Try.func10, Try.ntmps10
      go_wp2
      first | go_ret2 | go_ret
      exact ⟨rfl, HB0.out⟩
    rw [if_neg hz] at hr0
    have hdz : decide ((4294967295 : Int) ≤ (f2 : Int)) = false := decide_eq_false (by omega)
    by_cases ho : 4294967295 ≤ f3
    · rw [if_pos ho] at hr0
      obtain ⟨rfl, rfl⟩ : (⟨#[]⟩ : ByteArray) = r1 ∧ 8 = r2 := by simpa using hr0
      have hdo : decide ((4294967295 : Int) ≤ (f3 : Int)) = true := decide_eq_true (by omega)
      clear hr0 ho B1 B2 B3 hsum hcl hS2 hS4 hS8 hq hq2 hq3 hq4
      go_enter Try.func10, Try.ntmps10
      go_wp2
      first | go_ret2 | go_ret
      exact ⟨rfl, HB0.out⟩
    rw [if_neg ho] at hr0
    have hdo : decide ((4294967295 : Int) ≤ (f3 : Int)) = false := decide_eq_false (by omega)
    have HRES := Aside0.mk hr0
    clear hr0
    have hw1 : IntKind.u16.wrap (f1 : Int) = (f1 : Int) := by rw [u16_mod]; omega
    have hw2 : IntKind.u32.wrap (f2 : Int) = (f2 : Int) := by simp [IntKind.wrap, IntKind.bits, IntKind.signed]; omega
    have hw3 : IntKind.u32.wrap (f3 : Int) = (f3 : Int) := by simp [IntKind.wrap, IntKind.bits, IntKind.signed]; omega
    have TN := Aside0.mk (two_eq f1 (by omega) 65 (by decide))
    have FZ := Aside0.mk (four_eq f2 (by omega) 65 (by decide))
    have FO := Aside0.mk (four_eq f3 (by omega) 65 (by decide))
    go_enter Try.func10, Try.ntmps10
    go_upto_region 6 with (fail)
    have H := Aside0.mk (blk_alloc (heap_alloc_new w (.cells #[.int .i64 a0_0, .int .u64 (f1 : Int), .int .u64 (f2 : Int), .int .u64 (f3 : Int), .string a0_4, .bool false] 25)) (.cells #[.pointer none, .slice none 0 0] 61))
    have HI := Aside0.mk (has_fresh (w.alloc (.cells #[.int .i64 a0_0, .int .u64 (f1 : Int), .int .u64 (f2 : Int), .int .u64 (f3 : Int), .string a0_4, .bool false] 25)))
    have HB := Aside0.mk (below_alloc (below_alloc (Below.refl w.heap.size w) (.cells #[.int .i64 a0_0, .int .u64 (f1 : Int), .int .u64 (f2 : Int), .int .u64 (f3 : Int), .string a0_4, .bool false] 25)) (.cells #[.pointer none, .slice none 0 0] 61))
    have hgs : (w.alloc (.cells #[.int .i64 a0_0, .int .u64 (f1 : Int), .int .u64 (f2 : Int), .int .u64 (f3 : Int), .string a0_4, .bool false] 25)).heap.size = w.heap.size + 1 := by simp
    rw [hgs] at HI
    generalize hW : (w.alloc (.cells #[.int .i64 a0_0, .int .u64 (f1 : Int), .int .u64 (f2 : Int), .int .u64 (f3 : Int), .string a0_4, .bool false] 25)).alloc (.cells #[.pointer none, .slice none 0 0] 61) = W0 at H HI HB ⊢
    obtain ⟨gS, hgS⟩ : ∃ g, w.heap.size + 1 = g := ⟨_, rfl⟩
    obtain ⟨gX, hgX⟩ : ∃ g, w.heap.size = g := ⟨_, rfl⟩
    have HG := Aside0.mk (show gX = w.heap.size ∧ gS = w.heap.size + 1 ∧ gX ≠ gS ∧ w.heap.size ≤ gS by omega)
    rw [hgS] at HI ⊢
    rw [hgX] at H ⊢
    clear hgs hW hgS hgX
    have hc0 := blk_cell H.out 0
    have hc1 := blk_cell H.out 1
    have hc2 := blk_cell H.out 2
    have hc3 := blk_cell H.out 3
    have hc4 := blk_cell H.out 4
    have hc5 := blk_cell H.out 5
    go_quiet (fail)
    go_upto_region 13 with (first
          | (go_at_call 27; refine (cursor_Two.calls 65 _ _ _ T0.out).mono ?_; rintro e w1 ⟨rfl, hb⟩; have H := Aside0.mk (blk_below (by exact H.out) hb); have HI := Aside0.mk (has_below (by exact HI.out) hb); have HB := Aside0.mk (below_step (by first | exact HB.out | exact HB.out.drew | exact pw_below_drewN HB.out _) hb); clear hb)
          | (go_at_call 27; refine (cursor_Two.calls 65 _ _ _ TN.out).mono ?_; rintro e w1 ⟨rfl, hb⟩; have H := Aside0.mk (blk_below (by exact H.out) hb); have HI := Aside0.mk (has_below (by exact HI.out) hb); have HB := Aside0.mk (below_step (by first | exact HB.out | exact HB.out.drew | exact pw_below_drewN HB.out _) hb); clear hb)
          | (go_at_call 28; refine (cursor_Four.calls 65 _ _ _ FZ.out).mono ?_; rintro e w1 ⟨rfl, hb⟩; have H := Aside0.mk (blk_below (by exact H.out) hb); have HI := Aside0.mk (has_below (by exact HI.out) hb); have HB := Aside0.mk (below_step (by first | exact HB.out | exact HB.out.drew | exact pw_below_drewN HB.out _) hb); clear hb)
          | (go_at_call 28; refine (cursor_Four.calls 65 _ _ _ FO.out).mono ?_; rintro e w1 ⟨rfl, hb⟩; have H := Aside0.mk (blk_below (by exact H.out) hb); have HI := Aside0.mk (has_below (by exact HI.out) hb); have HB := Aside0.mk (below_step (by first | exact HB.out | exact HB.out.drew | exact pw_below_drewN HB.out _) hb); clear hb)
          | (go_at_call 25; refine (writeK_calls gS gS _ _ _ HI.out (by (try simp [S2.out, S4.out, S8.out, M5.out, M6.out, M7.out]) <;> omega) (by exact Nat.le_of_lt (has_lt HI.out).2)).mono ?_; rintro e w1 ⟨rfl, hat, hb, ho⟩; have H := Aside0.mk (oth_blk ho (by exact H.out) (by have := HG.out; omega) (by decide)); have HI := Aside0.mk hat; have HB := Aside0.mk ((by first | exact HB.out | exact HB.out.drew | exact pw_below_drewN HB.out _ : Below w.heap.size w _).trans (hb.mono (by have := HG.out; omega))); clear hat hb ho))
    go_region_held3 (fun W' => W'.heap[gX]? = some (.cells #[.int .i64 a0_0, .int .u64 (f1 : Int), .int .u64 (f2 : Int), .int .u64 (f3 : Int), .string a0_4, .bool false] 25 (0, 0)) ∧ W'.cell? ⟨gX, 0, none⟩ = some (.int .i64 a0_0) ∧ W'.cell? ⟨gX, 1, none⟩ = some (.int .u64 (f1 : Int)) ∧ W'.cell? ⟨gX, 2, none⟩ = some (.int .u64 (f2 : Int)) ∧ W'.cell? ⟨gX, 3, none⟩ = some (.int .u64 (f3 : Int)) ∧ W'.cell? ⟨gX, 4, none⟩ = some (.string a0_4) ∧ W'.cell? ⟨gX, 5, none⟩ = some (.bool false))
        (exact ⟨H.out, blk_cell H.out 0, blk_cell H.out 1, blk_cell H.out 2, blk_cell H.out 3, blk_cell H.out 4, blk_cell H.out 5⟩)
        (first
          | (go_at_call 27; refine (cursor_Two.calls 65 _ _ _ TL.out).mono ?_; rintro e w1 ⟨rfl, hb⟩; have H := Aside0.mk (blk_below (by exact H.out) hb); have HI := Aside0.mk (has_below (by exact HI.out) hb); have HB := Aside0.mk (below_step (by first | exact HB.out | exact HB.out.drew | exact pw_below_drewN HB.out _) hb); clear hb)
          | (go_at_call 25; refine (writeK_calls gS gS _ _ _ HI.out (by (try simp [S2.out, S4.out, S8.out, M5.out, M6.out, M7.out]) <;> omega) (by exact Nat.le_of_lt (has_lt HI.out).2)).mono ?_; rintro e w1 ⟨rfl, hat, hb, ho⟩; have H := Aside0.mk (oth_blk ho (by exact H.out) (by have := HG.out; omega) (by decide)); have HI := Aside0.mk hat; have HB := Aside0.mk ((by first | exact HB.out | exact HB.out.drew | exact pw_below_drewN HB.out _ : Below w.heap.size w _).trans (hb.mono (by have := HG.out; omega))); clear hat hb ho))
    go_wp2_with (go_at_call 29; refine (stringK_calls gS gS _ _ HI.out (by exact Nat.le_of_lt (has_lt HI.out).2)).mono ?_; rintro e w1 ⟨rfl, hat, hb, ho⟩; have HB := Aside0.mk (HB.out.trans (hb.mono (by have := HG.out; omega))); clear hat hb ho)
    have hr := HRES.out
    obtain ⟨he1, he2⟩ := Prod.mk.inj hr
    first | go_ret2 | go_ret
    refine ⟨?_, HB.out⟩
    rw [← he1, ← he2]
    simp [strN, endB, wideB]
end Go.Proofs.Ytdooampgkiodjaa.P
namespace Go.Proofs.Ytdooampgkiodjaa.Num
set_option linter.unusedVariables false
set_option linter.unusedSimpArgs false
open Go Go.RowKit Go.Proofs.Ytdooampgkiodjaa.P Go.Proofs.Ytdooampgkiodjaa.B Go.Proofs.YtdooampgkiodjaaW.PrintWords Go.Proofs.YtdooampgkiodjaaW.PrintLast Go.Proofs.YtdooampgkiodjaaW.PrintMore
end Go.Proofs.Ytdooampgkiodjaa.Num
