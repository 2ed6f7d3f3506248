import Derived.Test.YtdooampgkiodjaaWMore
import Derived.Laws.BitsLemmas
import Derived.Test.YtdooampgkiodjaaPx3
import Derived.Test.YtdooampgkiodjaaPx2
import Derived.Test.YtdooampgkiodjaaPx4
import Derived.Test.YtdooampgkiodjaaProg
import Derived.Shelf.Strings.Builder1
import Derived.Shelf.Strings.BuilderK
import Derived.Shelf.Strings.LastIndexAll
import Derived.Test.YtdooampgkiodjaaPx9
import Derived.Test.YtdooampgkiodjaaPx14
import Derived.ChangeArms
import Derived.DataReads
import Derived.SizedLaws
import Derived.WideShapes
import Derived.Test.YtdooampgkiodjaaPx5
import Derived.Test.YtdooampgkiodjaaPx6
import Derived.Test.YtdooampgkiodjaaPx8
import Derived.Test.YtdooampgkiodjaaPx15
import Derived.Test.YtdooampgkiodjaaPx16
namespace Go.Proofs.Ytdooampgkiodjaa.B
set_option linter.unusedVariables false
set_option linter.unusedSimpArgs false
open Go Go.RowKit Go.Proofs.YtdooampgkiodjaaW.PrintWords Go.Proofs.YtdooampgkiodjaaW.PrintLast Go.Proofs.YtdooampgkiodjaaW.PrintMore
theorem wrap_id {x : Int} (h0 : -9223372036854775808 ≤ x) (h1 : x ≤ 9223372036854775807) : wrap64 x = x := by
  unfold wrap64; omega
theorem u64_mod (x : Int) : IntKind.u64.wrap x = x % 18446744073709551616 := by simp [IntKind.wrap, IntKind.bits, IntKind.signed]
theorem u64_id {x : Int} (h0 : 0 ≤ x) (h1 : x < 18446744073709551616) : IntKind.u64.wrap x = x := by rw [u64_mod]; omega
theorem u16_mod (x : Int) : IntKind.u16.wrap x = x % 65536 := by simp [IntKind.wrap, IntKind.bits, IntKind.signed]
def leN : List UInt8 → Nat
  | [] => 0
  | b :: l => b.toNat + 256 * leN l
theorem leN_append (a b : List UInt8) : leN (a ++ b) = leN a + 256 ^ a.length * leN b := by
  induction a with
  | nil => simp [leN]
  | cons x a ih => simp only [List.cons_append, leN, ih, List.length_cons, Nat.pow_succ]; rw [Nat.mul_add, Nat.mul_comm (256 ^ a.length) 256, Nat.mul_assoc, Nat.add_assoc]
theorem leN_lt (l : List UInt8) : leN l < 256 ^ l.length := by
  induction l with
  | nil => simp [leN]
  | cons x l ih => simp only [leN, List.length_cons, Nat.pow_succ]; have := x.toNat_lt; omega
def ofN : Nat → Nat → List UInt8
  | 0, _ => []
  | c + 1, n => UInt8.ofNat (n % 256) :: ofN c (n / 256)
theorem ofN_length (c n : Nat) : (ofN c n).length = c := by
  induction c generalizing n with
  | zero => rfl
  | succ c ih => simp [ofN, ih]
theorem leN_ofN (c n : Nat) : leN (ofN c n) = n % 256 ^ c := by
  induction c generalizing n with
  | zero => simp [ofN, leN, Nat.mod_one]
  | succ c ih =>
    simp only [ofN, leN, ih]
    rw [Nat.pow_succ, Nat.mul_comm (256 ^ c) 256, Nat.mod_mul]
    have : (UInt8.ofNat (n % 256)).toNat = n % 256 := by simp
    rw [this]
theorem ofN_get (c n i : Nat) (h : i < c) : (ofN c n)[i]? = some (UInt8.ofNat (n / 256 ^ i % 256)) := by
  induction c generalizing n i with
  | zero => omega
  | succ c ih =>
    cases i with
    | zero => simp [ofN]
    | succ i => simp only [ofN, List.getElem?_cons_succ]; rw [ih _ _ (by omega), Nat.pow_succ, Nat.mul_comm (256 ^ i) 256, Nat.div_div_eq_div_mul]
theorem bt_nat (s : ByteArray) (i : Nat) (h : i < s.data.toList.length) : bt s (i : Int) = ((s.data.toList[i]).toNat : Int) := by
  have h' : i < s.size := by simpa using h
  have := bt_at s (i : Int) (by simpa using h')
  rw [← this]
  simp [ByteArray.getElem_eq_getElem_data]
theorem toList_length (s : ByteArray) : s.data.toList.length = s.size := by simp
theorem toL (s : ByteArray) : s.toList = s.data.toList := ByteArray.toList_eq s
theorem or_shl (a b i : Nat) (hi : i < 8) (ha : a < 256 ^ i) (hb : b < 256) : Go.bits .or .u64 (a : Int) (shl .u64 (IntKind.u64.wrap (b : Int)) ((8 * i : Nat) : Int)) = ((a + 256 ^ i * b : Nat) : Int) := by
  have e : (256 : Nat) ^ i = 2 ^ (8 * i) := by rw [Nat.pow_mul]
  have hp : 256 ^ i * 256 ≤ 2 ^ 64 := by
    rw [e, show (256 : Nat) = 2 ^ 8 from rfl, ← Nat.pow_add]
    exact Nat.pow_le_pow_right (by decide) (by omega)
  have hm : 256 ^ i * b < 2 ^ 64 := Nat.lt_of_lt_of_le (Nat.mul_lt_mul_of_pos_left hb (Nat.pow_pos (by decide))) hp
  have hs : shl .u64 (IntKind.u64.wrap (b : Int)) ((8 * i : Nat) : Int) = ((256 ^ i * b : Nat) : Int) := by
    unfold shl
    rw [u64_id (x := (b : Int)) (by omega) (by omega), Int.toNat_natCast, Nat.min_eq_left (by simp [IntKind.bits]; omega)]
    have e2 : (b : Int) * 2 ^ (8 * i) = ((256 ^ i * b : Nat) : Int) := by rw [e]; simp [Int.mul_comm]
    rw [e2, u64_id (by omega) (by omega)]
  rw [hs, (bits_nat .u64 64 (by decide) (fun n h0 h1 => u64_id h0 h1) a (256 ^ i * b) (Nat.lt_of_lt_of_le ha (by omega)) hm).2, e, Nat.or_comm, Nat.add_comm,
    Nat.two_pow_add_eq_or_of_lt (by rw [← e]; exact ha)]
end Go.Proofs.Ytdooampgkiodjaa.B
namespace Go.Proofs.Ytdooampgkiodjaa.Num
set_option linter.unusedVariables false
set_option linter.unusedSimpArgs false
open Go Go.RowKit Go.Proofs.Ytdooampgkiodjaa.B Go.Proofs.YtdooampgkiodjaaW.PrintWords Go.Proofs.YtdooampgkiodjaaW.PrintLast Go.Proofs.YtdooampgkiodjaaW.PrintMore
def ofI (n : Nat) (c : Int) : List UInt8 := ofN (min c.toNat 64) n
def strN (l : List UInt8) : ByteArray := ⟨l.toArray⟩
theorem strN_eq (xs : List Int) (l : List UInt8) (h : xs = l.map fun b => (b.toNat : Int)) : strOfNums xs = strN l := by
  subst h
  simp [strOfNums, strN, List.map_map, Function.comp_def]
end Go.Proofs.Ytdooampgkiodjaa.Num
namespace Go.Proofs.Ytdooampgkiodjaa.Num
set_option linter.unusedVariables false
set_option linter.unusedSimpArgs false
open Go Go.RowKit Go.Proofs.Ytdooampgkiodjaa.P Go.Proofs.Ytdooampgkiodjaa.B Go.Proofs.YtdooampgkiodjaaW.PrintWords Go.Proofs.YtdooampgkiodjaaW.PrintLast Go.Proofs.YtdooampgkiodjaaW.PrintMore
theorem number_loop (s : ByteArray) (hs : s.size ≤ 8) : ∀ (d k i : Nat), i + d = s.size → d < k →
    cursor_number.l0 k s ((leN (s.data.toList.take i) : Nat) : Int) (s.size : Int) (i : Int) = some ((leN s.data.toList : Nat) : Int) := by
  have hl : s.data.toList.length = s.size := toList_length s
  intro d
  induction d with
  | zero =>
    intro k i hd hk
    obtain ⟨k, rfl⟩ : ∃ m, k = m + 1 := ⟨k - 1, by omega⟩
    simp only [cursor_number.l0]
    rw [if_neg (by omega), List.take_of_length_le (by omega)]
  | succ d ih =>
    intro k i hd hk
    obtain ⟨k, rfl⟩ : ∃ m, k = m + 1 := ⟨k - 1, by omega⟩
    have hlt : i < s.data.toList.length := by omega
    have h8 : wrap64 (8 * (i : Int)) = ((8 * i : Nat) : Int) := by rw [wrap_id (by omega) (by omega)]; omega
    have hi1 : wrap64 ((i : Int) + 1) = ((i + 1 : Nat) : Int) := by rw [wrap_id (by omega) (by omega)]; omega
    have hb := bt_nat s i hlt
    have ht := leN_lt (s.data.toList.take i)
    rw [List.length_take, Nat.min_eq_left (by omega)] at ht
    simp only [cursor_number.l0]
    rw [if_pos (by omega), if_pos (by omega), if_pos (by omega), h8, if_pos (by omega), hi1, hb, or_shl _ _ i (by omega) ht (UInt8.toNat_lt _)]
    have e : leN (s.data.toList.take (i + 1)) = leN (s.data.toList.take i) + 256 ^ i * (s.data.toList[i]).toNat := by
      rw [List.take_succ_eq_append_getElem hlt, leN_append, List.length_take, Nat.min_eq_left (by omega)]
      simp [leN]
    rw [← e]
    exact ih k (i + 1) (by omega) (by omega)
theorem number_eq (s : ByteArray) (hs : s.size ≤ 8) (k : Nat) (hk : 8 < k) : cursor_number.f k s = some ((leN s.data.toList : Nat) : Int) := by
  have := number_loop s hs s.size k 0 (by omega) (by omega)
  simpa [cursor_number.f, leN] using this
end Go.Proofs.Ytdooampgkiodjaa.Num
namespace Go.Proofs.Ytdooampgkiodjaa.Cur
set_option linter.unusedVariables false
set_option linter.unusedSimpArgs false
open Go Go.RowKit Go.Proofs.Ytdooampgkiodjaa.P Go.Proofs.Ytdooampgkiodjaa.B Go.Proofs.Ytdooampgkiodjaa.Num Go.Proofs.YtdooampgkiodjaaW.PrintWords Go.Proofs.YtdooampgkiodjaaW.PrintLast Go.Proofs.YtdooampgkiodjaaW.PrintMore
theorem strN_data (l : List UInt8) : (strN l).data.toList = l := rfl
theorem strN_size (l : List UInt8) : (strN l).size = l.length := by simp [strN, ByteArray.size]
theorem ext_list {s t : ByteArray} (h : s.data.toList = t.data.toList) : s = t := ByteArray.ext (Array.toList_inj.1 h)
theorem extract_list (s : ByteArray) (i j : Nat) : (s.extract i j).data.toList = (s.data.toList.take j).drop i := by
  simp [List.extract_eq_take_drop, List.drop_take]
theorem extract_strN {s : ByteArray} {pre mid post : List UInt8} (h : s.data.toList = pre ++ mid ++ post) : s.extract pre.length (pre.length + mid.length) = strN mid := by
  apply ext_list
  rw [extract_list, h, strN_data, List.append_assoc, List.take_append]
  simp
theorem number_strN (l : List UInt8) (h : l.length ≤ 8) (k : Nat) (hk : 8 < k) : cursor_number.f k (strN l) = some ((leN l : Nat) : Int) := by
  have := number_eq (strN l) (by rw [strN_size]; exact h) k hk
  rwa [strN_data] at this
section
variable {s : ByteArray} {at_ n : Int} {pre mid post : List UInt8}
theorem take_list (hs : s.size ≤ 140737488351232) (h : s.data.toList = pre ++ mid ++ post) (ha : at_ = pre.length) (hn : n = mid.length) :
    cursor_Cursor_Take.f s at_ 0 n = some (strN mid, s, (((pre ++ mid).length : Nat) : Int), 0) := by
  have hl : s.size = pre.length + mid.length + post.length := by rw [← toList_length s, h]; simp; omega
  unfold cursor_Cursor_Take.f
  rw [if_pos rfl, if_neg (by omega), wrap_id (x := (s.size : Int) - at_) (by omega) (by omega), if_neg (by omega), wrap_id (x := at_ + n) (by omega) (by omega), if_pos (by omega), if_pos (by omega), if_pos (by omega)]
  have e1 : at_.toNat = pre.length := by omega
  have e2 : (at_ + n).toNat = pre.length + mid.length := by omega
  rw [e1, e2, extract_strN h]
  simp only [Option.some.injEq, Prod.mk.injEq, and_true, true_and]
  simp; omega
theorem take_short (hs : s.size ≤ 140737488351232) (ha : 0 ≤ at_) (ha2 : at_ ≤ s.size) (hn : n < 0 ∨ (s.size : Int) - at_ < n) : cursor_Cursor_Take.f s at_ 0 n = some (strN [], s, at_, 3) := by
  unfold cursor_Cursor_Take.f
  rw [if_pos rfl]
  by_cases h0 : n < 0
  · rw [if_pos h0]; rfl
  · rw [if_neg h0, wrap_id (x := (s.size : Int) - at_) (by omega) (by omega), if_pos (by omega)]; rfl
theorem take_bad {e : Int} (he : e ≠ 0) : cursor_Cursor_Take.f s at_ e n = some (strN [], s, at_, e) := by
  unfold cursor_Cursor_Take.f
  rw [if_neg he]; rfl
end
end Go.Proofs.Ytdooampgkiodjaa.Cur
namespace Go.Proofs.Ytdooampgkiodjaa.Cur
set_option linter.unusedVariables false
set_option linter.unusedSimpArgs false
open Go Go.RowKit Go.Proofs.Ytdooampgkiodjaa.P Go.Proofs.Ytdooampgkiodjaa.B Go.Proofs.Ytdooampgkiodjaa.Num Go.Proofs.YtdooampgkiodjaaW.PrintWords Go.Proofs.YtdooampgkiodjaaW.PrintLast Go.Proofs.YtdooampgkiodjaaW.PrintMore
def At (s : ByteArray) (a : Int) (R : List UInt8) : Prop := s.size ≤ 140737488351232 ∧ ∃ pre : List UInt8, s.data.toList = pre ++ R ∧ a = pre.length
theorem At.start (s : ByteArray) (hs : s.size ≤ 140737488351232) : At s 0 s.data.toList := ⟨hs, [], rfl, rfl⟩
theorem At.size {s : ByteArray} {a : Int} {R : List UInt8} (h : At s a R) : (s.size : Int) = a + R.length := by
  obtain ⟨_, pre, he, rfl⟩ := h
  rw [← toList_length s, he]; simp
theorem At.nn {s : ByteArray} {a : Int} {R : List UInt8} (h : At s a R) : 0 ≤ a := by
  obtain ⟨_, pre, he, rfl⟩ := h
  omega
theorem At.big {s : ByteArray} {a : Int} {R : List UInt8} (h : At s a R) : (s.size : Int) ≤ 140737488351232 := by have := h.1; omega
theorem At.on {s : ByteArray} {a : Int} {m R : List UInt8} (h : At s a (m ++ R)) : At s (a + m.length) R := by
  obtain ⟨hs, pre, he, rfl⟩ := h
  exact ⟨hs, pre ++ m, by rw [he]; simp, by simp⟩
theorem take_at {s : ByteArray} {a n : Int} {m R : List UInt8} (h : At s a (m ++ R)) (hn : n = m.length) : cursor_Cursor_Take.f s a 0 n = some (strN m, s, a + m.length, 0) := by
  obtain ⟨hs, pre, he, rfl⟩ := h
  rw [take_list (pre := pre) (mid := m) (post := R) hs (by rw [he]; simp) rfl hn]
  simp
theorem take_fail {s : ByteArray} {a n : Int} {R : List UInt8} (h : At s a R) (hn : n < 0 ∨ (R.length : Int) < n) : cursor_Cursor_Take.f s a 0 n = some (strN [], s, a, 3) := by
  have h1 := h.size
  have h2 := h.nn
  exact take_short h.1 h2 (by omega) (by omega)
theorem left_at {s : ByteArray} {a : Int} {R : List UInt8} (h : At s a R) : wrap64 ((s.size : Int) - a) = R.length := by
  have h1 := h.size
  have h2 := h.nn
  have h3 := h.big
  rw [wrap_id (by omega) (by omega)]; omega
end Go.Proofs.Ytdooampgkiodjaa.Cur
namespace Go.Proofs.Ytdooampgkiodjaa.Cur
set_option linter.unusedVariables false
set_option linter.unusedSimpArgs false
open Go Go.RowKit Go.Proofs.Ytdooampgkiodjaa.P Go.Proofs.Ytdooampgkiodjaa.B Go.Proofs.Ytdooampgkiodjaa.Num Go.Proofs.YtdooampgkiodjaaW.PrintWords Go.Proofs.YtdooampgkiodjaaW.PrintLast Go.Proofs.YtdooampgkiodjaaW.PrintMore
section
variable {s : ByteArray} {at_ : Int} {pre mid post : List UInt8}
theorem two_list (hs : s.size ≤ 140737488351232) (h : s.data.toList = pre ++ mid ++ post) (ha : at_ = pre.length) (hn : mid.length = 2) (k : Nat) (hk : 8 < k) :
    cursor_Cursor_Two.f k s at_ 0 = some (((leN mid : Nat) : Int), s, (((pre ++ mid).length : Nat) : Int), 0) := by
  unfold cursor_Cursor_Two.f
  have hb := leN_lt mid
  rw [hn] at hb
  rw [take_list hs h ha (by omega)]
  simp only [Option.bind_some]
  rw [number_strN _ (by omega) _ hk]
  simp only [Option.bind_some]
  rw [u16_mod, show ((leN mid : Nat) : Int) % 65536 = (leN mid : Nat) by omega]
end
end Go.Proofs.Ytdooampgkiodjaa.Cur
namespace Go.Proofs.Ytdooampgkiodjaa.Cur
set_option linter.unusedVariables false
set_option linter.unusedSimpArgs false
open Go Go.RowKit Go.Proofs.Ytdooampgkiodjaa.P Go.Proofs.Ytdooampgkiodjaa.B Go.Proofs.Ytdooampgkiodjaa.Num Go.Proofs.YtdooampgkiodjaaW.PrintWords Go.Proofs.YtdooampgkiodjaaW.PrintLast Go.Proofs.YtdooampgkiodjaaW.PrintMore
theorem two_at {s : ByteArray} {a : Int} {m R : List UInt8} (h : At s a (m ++ R)) (hn : m.length = 2) (k : Nat) (hk : 8 < k) : cursor_Cursor_Two.f k s a 0 = some (((leN m : Nat) : Int), s, a + m.length, 0) := by
  obtain ⟨hs, pre, he, rfl⟩ := h
  rw [two_list (pre := pre) (mid := m) (post := R) hs (by rw [he]; simp) rfl hn k hk]
  simp
end Go.Proofs.Ytdooampgkiodjaa.Cur
namespace Go.Proofs.Ytdooampgkiodjaa.Cur
set_option linter.unusedVariables false
set_option linter.unusedSimpArgs false
open Go Go.RowKit Go.Proofs.Ytdooampgkiodjaa.P Go.Proofs.Ytdooampgkiodjaa.B Go.Proofs.Ytdooampgkiodjaa.Num Go.Proofs.YtdooampgkiodjaaW.PrintWords Go.Proofs.YtdooampgkiodjaaW.PrintLast Go.Proofs.YtdooampgkiodjaaW.PrintMore
section
variable {s : ByteArray} {at_ : Int} {pre mid post : List UInt8}
theorem four_list (hs : s.size ≤ 140737488351232) (h : s.data.toList = pre ++ mid ++ post) (ha : at_ = pre.length) (hn : mid.length = 4) (k : Nat) (hk : 8 < k) :
    cursor_Cursor_Four.f k s at_ 0 = some (((leN mid : Nat) : Int), s, (((pre ++ mid).length : Nat) : Int), 0) := by
  unfold cursor_Cursor_Four.f
  have hb := leN_lt mid
  rw [hn] at hb
  rw [take_list hs h ha (by omega)]
  simp only [Option.bind_some]
  rw [number_strN _ (by omega) _ hk]
  simp only [Option.bind_some]
  rw [show ((leN mid : Nat) : Int) % 4294967296 = (leN mid : Nat) by omega]
end
end Go.Proofs.Ytdooampgkiodjaa.Cur
namespace Go.Proofs.Ytdooampgkiodjaa.Cur
set_option linter.unusedVariables false
set_option linter.unusedSimpArgs false
open Go Go.RowKit Go.Proofs.Ytdooampgkiodjaa.P Go.Proofs.Ytdooampgkiodjaa.B Go.Proofs.Ytdooampgkiodjaa.Num Go.Proofs.YtdooampgkiodjaaW.PrintWords Go.Proofs.YtdooampgkiodjaaW.PrintLast Go.Proofs.YtdooampgkiodjaaW.PrintMore
theorem four_at {s : ByteArray} {a : Int} {m R : List UInt8} (h : At s a (m ++ R)) (hn : m.length = 4) (k : Nat) (hk : 8 < k) : cursor_Cursor_Four.f k s a 0 = some (((leN m : Nat) : Int), s, a + m.length, 0) := by
  obtain ⟨hs, pre, he, rfl⟩ := h
  rw [four_list (pre := pre) (mid := m) (post := R) hs (by rw [he]; simp) rfl hn k hk]
  simp
end Go.Proofs.Ytdooampgkiodjaa.Cur
namespace Go.Proofs.Ytdooampgkiodjaa.Cur
set_option linter.unusedVariables false
set_option linter.unusedSimpArgs false
open Go Go.RowKit Go.Proofs.Ytdooampgkiodjaa.P Go.Proofs.Ytdooampgkiodjaa.B Go.Proofs.Ytdooampgkiodjaa.Num Go.Proofs.YtdooampgkiodjaaW.PrintWords Go.Proofs.YtdooampgkiodjaaW.PrintLast Go.Proofs.YtdooampgkiodjaaW.PrintMore
section
variable {s : ByteArray} {at_ : Int} {pre mid post : List UInt8}
theorem eight_list (hs : s.size ≤ 140737488351232) (h : s.data.toList = pre ++ mid ++ post) (ha : at_ = pre.length) (hn : mid.length = 8) (k : Nat) (hk : 8 < k) :
    cursor_Cursor_Eight.f k s at_ 0 = some (((leN mid : Nat) : Int), s, (((pre ++ mid).length : Nat) : Int), 0) := by
  unfold cursor_Cursor_Eight.f
  have hb := leN_lt mid
  rw [hn] at hb
  rw [take_list hs h ha (by omega)]
  simp only [Option.bind_some]
  rw [number_strN _ (by omega) _ hk]
  simp only [Option.bind_some]
theorem eight_short (hs : s.size ≤ 140737488351232) (ha : 0 ≤ at_) (ha2 : at_ ≤ s.size) (hn : (s.size : Int) - at_ < 8) (k : Nat) (hk : 8 < k) : cursor_Cursor_Eight.f k s at_ 0 = some (0, s, at_, 3) := by
  unfold cursor_Cursor_Eight.f
  rw [take_short hs ha ha2 (.inr hn)]
  simp only [Option.bind_some]
  rw [number_strN _ (by simp) _ hk]
  rfl
theorem eight_bad {e : Int} (he : e ≠ 0) (k : Nat) (hk : 8 < k) : cursor_Cursor_Eight.f k s at_ e = some (0, s, at_, e) := by
  unfold cursor_Cursor_Eight.f
  rw [take_bad he]
  simp only [Option.bind_some]
  rw [number_strN _ (by simp) _ hk]
  rfl
end
end Go.Proofs.Ytdooampgkiodjaa.Cur
namespace Go.Proofs.Ytdooampgkiodjaa.Cur
set_option linter.unusedVariables false
set_option linter.unusedSimpArgs false
open Go Go.RowKit Go.Proofs.Ytdooampgkiodjaa.P Go.Proofs.Ytdooampgkiodjaa.B Go.Proofs.Ytdooampgkiodjaa.Num Go.Proofs.YtdooampgkiodjaaW.PrintWords Go.Proofs.YtdooampgkiodjaaW.PrintLast Go.Proofs.YtdooampgkiodjaaW.PrintMore
theorem eight_at {s : ByteArray} {a : Int} {m R : List UInt8} (h : At s a (m ++ R)) (hn : m.length = 8) (k : Nat) (hk : 8 < k) : cursor_Cursor_Eight.f k s a 0 = some (((leN m : Nat) : Int), s, a + m.length, 0) := by
  obtain ⟨hs, pre, he, rfl⟩ := h
  rw [eight_list (pre := pre) (mid := m) (post := R) hs (by rw [he]; simp) rfl hn k hk]
  simp
theorem eight_fail {s : ByteArray} {a : Int} {R : List UInt8} (h : At s a R) (hn : R.length < 8) (k : Nat) (hk : 8 < k) : cursor_Cursor_Eight.f k s a 0 = some (0, s, a, 3) := by
  have h1 := h.size
  have h2 := h.nn
  exact eight_short h.1 h2 (by omega) (by omega) k hk
end Go.Proofs.Ytdooampgkiodjaa.Cur
namespace Go.Proofs.Ytdooampgkiodjaa.Sb
set_option linter.unusedVariables false
set_option linter.unusedSimpArgs false
open Go Go.RowKit Go.Shelf Go.Proofs
def here : Ren := ⟨fun n => if n = 166 then 25 else if n = 169 then 29 else if n = 240 then 46 else if n = 276 then 55 else n, fun n => if n = 0 then 0 else if n = 3 then 3 else if n = 4 then 4 else if n = 5 then 5 else if n = 9 then 9 else if n = 20 then 20 else if n = 37 then 37 else if n = 70 then 59 else if n = 72 then 61 else if n = 75 then 64 else if n = 164 then 94 else if n = 127 then 86 else if n = 80 then 70 else n, fun n => n⟩
theorem lays166 : Lays.n166 Try.prog here where
  mixed := by kernel_rfl
  f166 := (show Try.prog.funcs[25]? = some (Body.n166 here) from Try.func25.trans (congrArg some (by kernel_rfl)))
  f240 := (show Try.prog.funcs[46]? = some (Body.n240 here) from Try.func46.trans (congrArg some (by kernel_rfl)))
  f276 := (show Try.prog.funcs[55]? = some (Body.n276 here) from Try.func55.trans (congrArg some (by kernel_rfl)))
  t0 := Try.underlying0
  a0 := Try.isAgg0
  z0 := Try.sizeOf0
  v0 := Try.zeroValue0
  t3 := Try.underlying3
  a3 := Try.isAgg3
  z3 := Try.sizeOf3
  v3 := Try.zeroValue3
  t4 := Try.underlying4
  a4 := Try.isAgg4
  z4 := Try.sizeOf4
  v4 := Try.zeroValue4
  t9 := Try.underlying9
  a9 := Try.isAgg9
  z9 := Try.sizeOf9
  v9 := Try.zeroValue9
  t20 := Try.underlying20
  a20 := Try.isAgg20
  z20 := Try.sizeOf20
  v20 := Try.zeroValue20
  t37 := Try.underlying37
  a37 := Try.isAgg37
  z37 := Try.sizeOf37
  v37 := Try.zeroValue37
  t70 := Try.underlying59
  a70 := Try.isAgg59
  z70 := Try.sizeOf59
  v70 := Try.zeroValue59
  t72 := Try.underlying61
  a72 := Try.isAgg61
  z72 := Try.sizeOf61
  v72 := Try.zeroValue61
  t75 := Try.underlying64
  a75 := Try.isAgg64
  z75 := Try.sizeOf64
  v75 := Try.zeroValue64
  t164 := Try.underlying94
  a164 := Try.isAgg94
  z164 := Try.sizeOf94
  v164 := Try.zeroValue94
theorem lays169 : Lays.n169 Try.prog here where
  mixed := by kernel_rfl
  f169 := (show Try.prog.funcs[29]? = some (Body.n169 here) from Try.func29.trans (congrArg some (by kernel_rfl)))
  t0 := Try.underlying0
  a0 := Try.isAgg0
  z0 := Try.sizeOf0
  v0 := Try.zeroValue0
  t3 := Try.underlying3
  a3 := Try.isAgg3
  z3 := Try.sizeOf3
  v3 := Try.zeroValue3
  t9 := Try.underlying9
  a9 := Try.isAgg9
  z9 := Try.sizeOf9
  v9 := Try.zeroValue9
  t37 := Try.underlying37
  a37 := Try.isAgg37
  z37 := Try.sizeOf37
  v37 := Try.zeroValue37
  t70 := Try.underlying59
  a70 := Try.isAgg59
  z70 := Try.sizeOf59
  v70 := Try.zeroValue59
  t72 := Try.underlying61
  a72 := Try.isAgg61
  z72 := Try.sizeOf61
  v72 := Try.zeroValue61
  t127 := Try.underlying86
  a127 := Try.isAgg86
  z127 := Try.sizeOf86
  v127 := Try.zeroValue86
theorem extra : Builder.Extra Try.prog here where
  sizeBuilder := by kernel_rfl
  liesBuilder := by kernel_rfl
  t5 := Try.underlying5
  a5 := Try.isAgg5
  z5 := Try.sizeOf5
  v5 := Try.zeroValue5
  infoByte := by kernel_rfl
  cellsByte := by kernel_rfl
  sizeByte := by kernel_rfl
  neB5 := by decide
theorem fresh (w : World) : Lib.IsBuilder 61 5 w.heap.size w.heap.size (Lib.byteCells []) (w.alloc (.cells #[.pointer none, .slice none 0 0] 61)) := Lib.fresh_isBuilder 61 5 w
end Go.Proofs.Ytdooampgkiodjaa.Sb
namespace Go.Proofs.Ytdooampgkiodjaa.Sb
set_option linter.unusedVariables false
set_option linter.unusedSimpArgs false
open Go Go.RowKit Go.Shelf Go.Proofs Go.Proofs.YtdooampgkiodjaaW.PrintWords Go.Proofs.YtdooampgkiodjaaW.PrintLast Go.Proofs.YtdooampgkiodjaaW.PrintMore
def Has (B b : Nat) (l : List UInt8) (w : World) : Prop := Lib.IsBuilderF 61 5 B b (Lib.byteCells l) w
def Oth (b : Nat) (w w' : World) : Prop := Lib.OthersKept 5 (some b) w w'
theorem has_fresh (w : World) : Has w.heap.size w.heap.size [] (w.alloc (.cells #[.pointer none, .slice none 0 0] 61)) := Lib.IsBuilderF.of (fresh w)
theorem hasAt_below {T e : TypeId} {B b : Nat} {p : Value} {bs : List Value} {W W' : World} (h : Lib.BuilderAtF T e B b p bs W) (hb : Below W.heap.size W W') : Lib.BuilderAtF T e B b p bs W' := by
  have hlt := h.lt
  obtain ⟨hB, v, hv, hown, hne⟩ := h
  exact ⟨hB, v, (hb.block b hlt).trans hv, hown.kept (row := none) ⟨hb.os, hb.tape, hb.output, hb.size, fun k hk _ => hb.block k hk⟩ (Classical.em _), hne⟩
theorem has_below {B b : Nat} {l : List UInt8} {W W' : World} (h : Has B b l W) (hb : Below W.heap.size W W') : Has B b l W' :=
  h.elim (fun x => .inl (hasAt_below x hb)) (fun x => .inr (hasAt_below x hb))
theorem has_lt {B b : Nat} {l : List UInt8} {w : World} (h : Has B b l w) : B ≤ b ∧ b < w.heap.size := h.elim (fun x => ⟨x.1, x.lt⟩) (fun x => ⟨x.1, x.lt⟩)
theorem oth_blk {b g : Nat} {w w' : World} {cs : Array Value} {t : TypeId} {fr : Nat × Nat} (h : Oth b w w') (hg : w.heap[g]? = some (.cells cs t fr)) (hne : g ≠ b) (ht : t ≠ 5) : w'.heap[g]? = some (.cells cs t fr) :=
  h g _ hg (fun e => hne (Option.some.inj e)) (fun c fz e => ht (by injection e))
theorem writeK_calls (B b : Nat) (l : List UInt8) (s : ByteArray) (w : World) (h : Has B b l w) (hlen : l.length + s.size ≤ 140737488355328) (hBw : B ≤ w.heap.size) :
    Calls Try.prog 25 #[.pointer (some ⟨b, 0, none⟩), .string s] w fun e w' => e = .returned (.tuple #[.int .i64 s.size, .nilIface]) ∧ Has B b (l ++ s.data.toList) w' ∧ Below B w w' ∧ Oth b w w' :=
  (Any.Builder_WriteString_k lays166 extra B b _ s w h (by rw [Lib.byteCells_length]; exact hlen) hBw).mono fun e w' ⟨he, hat, hb, ho⟩ => ⟨he, by
    have hq : Lib.byteCells l ++ Lib.strCells s = Lib.byteCells (l ++ s.data.toList) := by rw [Lib.strCells_eq]; simp [Lib.byteCells]
    rw [hq] at hat; exact .inr hat, hb, ho⟩
theorem stringK_calls (B b : Nat) (l : List UInt8) (w : World) (h : Has B b l w) (hBw : B ≤ w.heap.size) :
    Calls Try.prog 29 #[.pointer (some ⟨b, 0, none⟩)] w fun e w' => e = .returned (.string ⟨l.toArray⟩) ∧ Has B b l w' ∧ Below B w w' ∧ Oth b w w' :=
  Any.Builder_String_any_k lays169 extra B b l w h hBw
end Go.Proofs.Ytdooampgkiodjaa.Sb
namespace Go.Proofs.Ytdooampgkiodjaa.Li
set_option linter.unusedVariables false
set_option linter.unusedSimpArgs false
open Go Go.RowKit Go.Shelf Go.Proofs
end Go.Proofs.Ytdooampgkiodjaa.Li
namespace Go.Proofs.Ytdooampgkiodjaa.P
open Go Go.RowKit Go.Shelf Go.Proofs Go.Proofs.Ytdooampgkiodjaa.Li
end Go.Proofs.Ytdooampgkiodjaa.P
namespace Go.Proofs.Ytdooampgkiodjaa.Num
set_option linter.unusedVariables false
set_option linter.unusedSimpArgs false
open Go Go.RowKit Go.Proofs.Ytdooampgkiodjaa.P Go.Proofs.Ytdooampgkiodjaa.B Go.Proofs.YtdooampgkiodjaaW.PrintWords Go.Proofs.YtdooampgkiodjaaW.PrintLast Go.Proofs.YtdooampgkiodjaaW.PrintMore
theorem of_loop (n c : Nat) (hn : n < 2 ^ 64) : ∀ (d k i : Nat) (xs : List Int), i + d = min c 8 → xs = (ofN i n).map (fun b => (b.toNat : Int)) ++ List.replicate (c - i) 0 → d < k →
    cursor_Of.l0 k (n : Int) xs ((min c 8 : Nat) : Int) (i : Int) = some (strN (ofN c n)) := by
  intro d
  induction d with
  | zero =>
    intro k i xs hd hx hk
    obtain ⟨k, rfl⟩ : ∃ m, k = m + 1 := ⟨k - 1, by omega⟩
    have hs : strOfNums xs = strN (ofN c n) := by
      apply strN_eq
      rw [hx]
      apply List.ext_getElem?
      intro j
      by_cases h1 : j < i
      · rw [List.getElem?_append_left (by simpa [ofN_length] using h1)]
        simp only [List.getElem?_map]
        rw [ofN_get _ _ _ h1, ofN_get _ _ _ (by omega)]
      · rw [List.getElem?_append_right (by simp [ofN_length]; omega)]
        by_cases h2 : j < c
        · simp only [List.getElem?_map]
          rw [ofN_get _ _ _ h2]
          have : n / 256 ^ j = 0 := by
            apply Nat.div_eq_of_lt
            have : 256 ^ 8 ≤ 256 ^ j := Nat.pow_le_pow_right (by decide) (by omega)
            omega
          simp only [Option.map_some, this, List.length_map, ofN_length, List.getElem?_replicate]
          rw [if_pos (by omega)]
          rfl
        · rw [List.getElem?_eq_none (by simp [ofN_length]; omega), List.getElem?_eq_none (by simp [ofN_length]; omega)]
    simp only [cursor_Of.l0]
    rw [if_neg (by omega), hs]
  | succ d ih =>
    intro k i xs hd hx hk
    obtain ⟨k, rfl⟩ : ∃ m, k = m + 1 := ⟨k - 1, by omega⟩
    have hlen : xs.length = c := by rw [hx]; simp [ofN_length]; omega
    have h8 : wrap64 (8 * (i : Int)) = ((8 * i : Nat) : Int) := by rw [wrap_id (by omega) (by omega)]; omega
    simp only [cursor_Of.l0]
    rw [if_pos (by omega), h8, if_pos (by omega), if_pos (by omega), if_pos (by omega), wrap_id (by omega) (by omega)]
    have e1 : shr .u64 (n : Int) ((8 * i : Nat) : Int) % 256 = ((n / 256 ^ i % 256 : Nat) : Int) := by
      unfold shr
      rw [Int.toNat_natCast, Nat.min_eq_left (by simp [IntKind.bits]; omega), show (256 : Nat) ^ i = 2 ^ (8 * i) by rw [Nat.pow_mul]]
      simp
    rw [e1, Int.toNat_natCast]
    refine ih k (i + 1) _ (by omega) ?_ (by omega)
    rw [hx]
    apply List.ext_getElem?
    intro j
    rw [List.getElem?_set]
    by_cases h1 : j < i
    · rw [if_neg (by omega), List.getElem?_append_left (by simpa [ofN_length] using h1), List.getElem?_append_left (by simp [ofN_length]; omega)]
      simp only [List.getElem?_map]
      rw [ofN_get _ _ _ h1, ofN_get _ _ _ (by omega)]
    · by_cases h2 : i = j
      · subst h2
        rw [if_pos rfl, if_pos (by simp [ofN_length]; omega), List.getElem?_append_left (by simp [ofN_length])]
        simp only [List.getElem?_map]
        rw [ofN_get _ _ _ (by omega)]
        simp
      · rw [if_neg h2, List.getElem?_append_right (by simp [ofN_length]; omega), List.getElem?_append_right (by simp [ofN_length]; omega)]
        simp only [List.length_map, ofN_length, List.getElem?_replicate]
        by_cases h3 : j < c
        · rw [if_pos (by omega), if_pos (by omega)]
        · rw [if_neg (by omega), if_neg (by omega)]
theorem of_eq (n : Nat) (hn : n < 2 ^ 64) (a1 : Int) (k : Nat) (hk : 64 < k) : cursor_Of.f k (n : Int) a1 = some (strN (ofI n a1)) := by
  have hm : mn (mx a1 0) 64 = ((min a1.toNat 64 : Nat) : Int) := by unfold mn mx; omega
  unfold cursor_Of.f ofI
  rw [hm, if_pos (by omega), if_pos (by omega)]
  simp only [Option.bind_some, List.length_replicate, Int.toNat_natCast]
  have hm2 : mn ((min a1.toNat 64 : Nat) : Int) 8 = ((min (min a1.toNat 64) 8 : Nat) : Int) := by unfold mn; omega
  rw [hm2]
  exact of_loop n (min a1.toNat 64) hn (min (min a1.toNat 64) 8) k 0 _ (by omega) (by simp [ofN]) (by omega)
end Go.Proofs.Ytdooampgkiodjaa.Num
namespace Go.Proofs.Ytdooampgkiodjaa.Num
set_option linter.unusedVariables false
set_option linter.unusedSimpArgs false
open Go Go.RowKit Go.Proofs.Ytdooampgkiodjaa.P Go.Proofs.Ytdooampgkiodjaa.B Go.Proofs.YtdooampgkiodjaaW.PrintWords Go.Proofs.YtdooampgkiodjaaW.PrintLast Go.Proofs.YtdooampgkiodjaaW.PrintMore
theorem two_eq (n : Nat) (hn : n < 2 ^ 16) (k : Nat) (hk : 64 < k) : cursor_Two.f k (n : Int) = some (strN (ofN 2 n)) := by
  unfold cursor_Two.f
  rw [u64_id (by omega) (by omega), of_eq n (by omega) 2 k hk]; rfl
end Go.Proofs.Ytdooampgkiodjaa.Num
namespace Go.Proofs.Ytdooampgkiodjaa.Num
set_option linter.unusedVariables false
set_option linter.unusedSimpArgs false
open Go Go.RowKit Go.Proofs.Ytdooampgkiodjaa.P Go.Proofs.Ytdooampgkiodjaa.B Go.Proofs.YtdooampgkiodjaaW.PrintWords Go.Proofs.YtdooampgkiodjaaW.PrintLast Go.Proofs.YtdooampgkiodjaaW.PrintMore
theorem four_eq (n : Nat) (hn : n < 2 ^ 32) (k : Nat) (hk : 64 < k) : cursor_Four.f k (n : Int) = some (strN (ofN 4 n)) := by
  unfold cursor_Four.f
  rw [u64_id (by omega) (by omega), of_eq n (by omega) 4 k hk]; rfl
end Go.Proofs.Ytdooampgkiodjaa.Num
namespace Go.Proofs.Ytdooampgkiodjaa.Num
set_option linter.unusedVariables false
set_option linter.unusedSimpArgs false
open Go Go.RowKit Go.Proofs.Ytdooampgkiodjaa.P Go.Proofs.Ytdooampgkiodjaa.B Go.Proofs.YtdooampgkiodjaaW.PrintWords Go.Proofs.YtdooampgkiodjaaW.PrintLast Go.Proofs.YtdooampgkiodjaaW.PrintMore
theorem eight_eq (n : Nat) (hn : n < 2 ^ 64) (k : Nat) (hk : 64 < k) : cursor_Eight.f k (n : Int) = some (strN (ofN 8 n)) := by
  unfold cursor_Eight.f
  rw [of_eq n hn 8 k hk]; rfl
end Go.Proofs.Ytdooampgkiodjaa.Num
namespace Go.Proofs.Ytdooampgkiodjaa.P
set_option linter.unusedVariables false
set_option linter.unusedSimpArgs false
open Go Go.RowKit Go.Proofs.Ytdooampgkiodjaa.B Go.Proofs.Ytdooampgkiodjaa.Num Go.Proofs.Ytdooampgkiodjaa.Sb Go.Proofs.YtdooampgkiodjaaW.PrintWords Go.Proofs.YtdooampgkiodjaaW.PrintLast Go.Proofs.YtdooampgkiodjaaW.PrintMore
def endB (n z o : Nat) (c : List UInt8) : List UInt8 := [80, 75, 5, 6] ++ ofN 2 0 ++ ofN 2 0 ++ ofN 2 n ++ ofN 2 n ++ ofN 4 z ++ ofN 4 o ++ (ofN 2 c.length ++ c)
def wideB (n z o : Nat) : List UInt8 := ([80, 75, 6, 6] ++ ofN 8 44 ++ ofN 2 45 ++ ofN 2 45 ++ ofN 4 0 ++ ofN 4 0) ++ (ofN 8 n ++ ofN 8 n ++ ofN 8 z ++ ofN 8 o) ++ ([80, 75, 6, 7] ++ ofN 4 0 ++ ofN 8 ((o + z) % 18446744073709551616) ++ ofN 4 1)
def tailGo (n z o : Nat) (c : ByteArray) (wide : Bool) : ByteArray × Int :=
  if 65535 < c.size then (⟨#[]⟩, 5)
  else if wide = true then (strN (wideB n z o ++ endB 65535 4294967295 4294967295 c.data.toList), 0)
  else if 65535 ≤ n then (⟨#[]⟩, 8) else if 4294967295 ≤ z then (⟨#[]⟩, 8) else if 4294967295 ≤ o then (⟨#[]⟩, 8)
  else (strN (endB n z o c.data.toList), 0)
def tail_Print.f (a0_0 a0_1 a0_2 a0_3 : Int) (a0_4 : ByteArray) (a0_5 : Bool) : Option (ByteArray × Int) :=
  if (0 ≤ a0_1 ∧ a0_1 < 18446744073709551616) ∧ (0 ≤ a0_2 ∧ a0_2 < 18446744073709551616) ∧ (0 ≤ a0_3 ∧ a0_3 < 18446744073709551616) then some (tailGo a0_1.toNat a0_2.toNat a0_3.toNat a0_4 a0_5) else none
set_option maxHeartbeats 8000000 in
set_option maxRecDepth 100000 in
theorem tail_Print.calls (a0_0 a0_1 a0_2 a0_3 : Int) (a0_4 : ByteArray) (a0_5 : Bool) (r1 : ByteArray) (r2 : Int) (w : World) (h : tail_Print.f a0_0 a0_1 a0_2 a0_3 a0_4 a0_5 = some (r1, r2)) :
    Calls Try.prog 10 #[.agg #[.int .i64 a0_0, .int .u64 a0_1, .int .u64 a0_2, .int .u64 a0_3, .string a0_4, .bool a0_5]] w fun e w' => e = .returned (.tuple #[.string r1, .int .i64 r2]) ∧ Below w.heap.size w w' := by
  unfold tail_Print.f at h
  split at h
  case isFalse => cases h
  case isTrue hb =>
  obtain ⟨⟨b1, b2⟩, ⟨b3, b4⟩, ⟨b5, b6⟩⟩ := hb
  have hres : tailGo a0_1.toNat a0_2.toNat a0_3.toNat a0_4 a0_5 = (r1, r2) := Option.some.inj h
  obtain ⟨f1, rfl⟩ : ∃ x : Nat, a0_1 = (x : Int) := ⟨a0_1.toNat, by omega⟩
  obtain ⟨f2, rfl⟩ : ∃ x : Nat, a0_2 = (x : Int) := ⟨a0_2.toNat, by omega⟩
  obtain ⟨f3, rfl⟩ : ∃ x : Nat, a0_3 = (x : Int) := ⟨a0_3.toNat, by omega⟩
  simp only [Int.toNat_natCast] at hres
  have B1 : f1 < 18446744073709551616 := by omega
  have B2 : f2 < 18446744073709551616 := by omega
  have B3 : f3 < 18446744073709551616 := by omega
  clear h b1 b2 b3 b4 b5 b6
  unfold tailGo at hres
  have hb0 := below_alloc (Below.refl w.heap.size w) (.cells #[.int .i64 a0_0, .int .u64 (f1 : Int), .int .u64 (f2 : Int), .int .u64 (f3 : Int), .string a0_4, .bool a0_5] 25)
  have hx0 := heap_alloc_new w (.cells #[.int .i64 a0_0, .int .u64 (f1 : Int), .int .u64 (f2 : Int), .int .u64 (f3 : Int), .string a0_4, .bool a0_5] 25)
  have hcc4 := blk_cell hx0 4
  by_cases hbig : 65535 < a0_4.size
  · rw [if_pos hbig] at hres
    obtain ⟨rfl, rfl⟩ : (⟨#[]⟩ : ByteArray) = r1 ∧ 5 = r2 := by simpa using hres
    have hd : decide (65535 < a0_4.size) = true := decide_eq_true hbig
    go_enter Try.func10, Try.ntmps10
    go_wp2
    first | go_ret2 | go_ret
    exact ⟨rfl, hb0⟩
  rw [if_neg hbig] at hres
  have hd : decide (65535 < a0_4.size) = false := decide_eq_false hbig
  have HB0 := Aside0.mk hb0
  have HX0 := Aside0.mk hx0
  clear hb0 hx0 hcc4
  have S2 := Aside0.mk (fun n : Nat => (show (strN (ofN 2 n)).size = 2 from ofN_length 2 n))
  have S4 := Aside0.mk (fun n : Nat => (show (strN (ofN 4 n)).size = 4 from ofN_length 4 n))
  have S8 := Aside0.mk (fun n : Nat => (show (strN (ofN 8 n)).size = 8 from ofN_length 8 n))
  have M5 := Aside0.mk (show (⟨#[80, 75, 5, 6]⟩ : ByteArray).size = 4 from rfl)
  have M6 := Aside0.mk (show (⟨#[80, 75, 6, 6]⟩ : ByteArray).size = 4 from rfl)
  have M7 := Aside0.mk (show (⟨#[80, 75, 6, 7]⟩ : ByteArray).size = 4 from rfl)
  have E44 := Aside0.mk (show cursor_Eight.f 65 44 = _ from eight_eq 44 (by decide) 65 (by decide))
  have E1 := Aside0.mk (eight_eq f1 (by omega) 65 (by decide))
  have E2 := Aside0.mk (eight_eq f2 (by omega) 65 (by decide))
  have E3 := Aside0.mk (eight_eq f3 (by omega) 65 (by decide))
  have ES := Aside0.mk (eight_eq ((f3 + f2) % 18446744073709551616) (by omega) 65 (by decide))
  have T45 := Aside0.mk (show cursor_Two.f 65 45 = _ from two_eq 45 (by decide) 65 (by decide))
  have T0 := Aside0.mk (show cursor_Two.f 65 0 = _ from two_eq 0 (by decide) 65 (by decide))
  have TM := Aside0.mk (show cursor_Two.f 65 65535 = _ from two_eq 65535 (by decide) 65 (by decide))
  have TL := Aside0.mk (two_eq a0_4.size (by omega) 65 (by decide))
  have F0 := Aside0.mk (show cursor_Four.f 65 0 = _ from four_eq 0 (by decide) 65 (by decide))
  have F1 := Aside0.mk (show cursor_Four.f 65 1 = _ from four_eq 1 (by decide) 65 (by decide))
  have FM := Aside0.mk (show cursor_Four.f 65 4294967295 = _ from four_eq 4294967295 (by decide) 65 (by decide))
  have HRES := Aside0.mk hres
  clear hres
  have hsum : IntKind.u64.wrap ((f3 : Int) + (f2 : Int)) = (((f3 + f2) % 18446744073709551616 : Nat) : Int) := by rw [u64_mod]; omega
  have hcl : IntKind.u16.wrap (a0_4.size : Int) = (a0_4.size : Int) := by rw [u16_mod]; omega
  have hS2 := S2.out
  have hS4 := S4.out
  have hS8 := S8.out
  have hq := eq_true (show 2 + a0_4.size ≤ 9223372036854775807 by omega)
  have hq2 := eq_true (show a0_4.size ≤ 9223372036854775805 by omega)
  have hq3 : (9223372036854775807 < 2 + a0_4.size) = False := eq_false (by omega)
  have hq4 : (9223372036854775805 < a0_4.size) = False := eq_false (by omega)
  cases a0_5 with
  | true =>
    go_enter Try.func10, Try.ntmps10
    go_upto_region 6 with (fail)
    have H := Aside0.mk (blk_alloc (heap_alloc_new w (.cells #[.int .i64 a0_0, .int .u64 (f1 : Int), .int .u64 (f2 : Int), .int .u64 (f3 : Int), .string a0_4, .bool true] 25)) (.cells #[.pointer none, .slice none 0 0] 61))
    have HI := Aside0.mk (has_fresh (w.alloc (.cells #[.int .i64 a0_0, .int .u64 (f1 : Int), .int .u64 (f2 : Int), .int .u64 (f3 : Int), .string a0_4, .bool true] 25)))
    have HB := Aside0.mk (below_alloc (below_alloc (Below.refl w.heap.size w) (.cells #[.int .i64 a0_0, .int .u64 (f1 : Int), .int .u64 (f2 : Int), .int .u64 (f3 : Int), .string a0_4, .bool true] 25)) (.cells #[.pointer none, .slice none 0 0] 61))
    have hgs : (w.alloc (.cells #[.int .i64 a0_0, .int .u64 (f1 : Int), .int .u64 (f2 : Int), .int .u64 (f3 : Int), .string a0_4, .bool true] 25)).heap.size = w.heap.size + 1 := by simp
    rw [hgs] at HI
    generalize hW : (w.alloc (.cells #[.int .i64 a0_0, .int .u64 (f1 : Int), .int .u64 (f2 : Int), .int .u64 (f3 : Int), .string a0_4, .bool true] 25)).alloc (.cells #[.pointer none, .slice none 0 0] 61) = W0 at H HI HB ⊢
    obtain ⟨gS, hgS⟩ : ∃ g, w.heap.size + 1 = g := ⟨_, rfl⟩
    obtain ⟨gX, hgX⟩ : ∃ g, w.heap.size = g := ⟨_, rfl⟩
    have HG := Aside0.mk (show gX = w.heap.size ∧ gS = w.heap.size + 1 ∧ gX ≠ gS ∧ w.heap.size ≤ gS by omega)
    rw [hgS] at HI ⊢
    rw [hgX] at H ⊢
    clear hgs hW hgS hgX
    have hc0 := blk_cell H.out 0
    have hc1 := blk_cell H.out 1
    have hc2 := blk_cell H.out 2
    have hc3 := blk_cell H.out 3
    have hc4 := blk_cell H.out 4
    have hc5 := blk_cell H.out 5
    go_quiet (fail)
    go_upto_region 10 with (first
          | (go_at_call 26; refine (cursor_Eight.calls 65 _ _ _ E44.out).mono ?_; rintro e w1 ⟨rfl, hb⟩; have H := Aside0.mk (blk_below (by exact H.out) hb); have HI := Aside0.mk (has_below (by exact HI.out) hb); have HB := Aside0.mk (below_step (by first | exact HB.out | exact HB.out.drew | exact pw_below_drewN HB.out _) hb); clear hb)
          | (go_at_call 27; refine (cursor_Two.calls 65 _ _ _ T45.out).mono ?_; rintro e w1 ⟨rfl, hb⟩; have H := Aside0.mk (blk_below (by exact H.out) hb); have HI := Aside0.mk (has_below (by exact HI.out) hb); have HB := Aside0.mk (below_step (by first | exact HB.out | exact HB.out.drew | exact pw_below_drewN HB.out _) hb); clear hb)
          | (go_at_call 28; refine (cursor_Four.calls 65 _ _ _ F0.out).mono ?_; rintro e w1 ⟨rfl, hb⟩; have H := Aside0.mk (blk_below (by exact H.out) hb); have HI := Aside0.mk (has_below (by exact HI.out) hb); have HB := Aside0.mk (below_step (by first | exact HB.out | exact HB.out.drew | exact pw_below_drewN HB.out _) hb); clear hb)
          | (go_at_call 25; refine (writeK_calls gS gS _ _ _ HI.out (by (try simp [S2.out, S4.out, S8.out, M5.out, M6.out, M7.out]) <;> omega) (by exact Nat.le_of_lt (has_lt HI.out).2)).mono ?_; rintro e w1 ⟨rfl, hat, hb, ho⟩; have H := Aside0.mk (oth_blk ho (by exact H.out) (by have := HG.out; omega) (by decide)); have HI := Aside0.mk hat; have HB := Aside0.mk ((by first | exact HB.out | exact HB.out.drew | exact pw_below_drewN HB.out _ : Below w.heap.size w _).trans (hb.mono (by have := HG.out; omega))); clear hat hb ho))
    go_region_held3 (fun W' => W'.heap[gX]? = some (.cells #[.int .i64 a0_0, .int .u64 (f1 : Int), .int .u64 (f2 : Int), .int .u64 (f3 : Int), .string a0_4, .bool true] 25 (0, 0)) ∧ W'.cell? ⟨gX, 0, none⟩ = some (.int .i64 a0_0) ∧ W'.cell? ⟨gX, 1, none⟩ = some (.int .u64 (f1 : Int)) ∧ W'.cell? ⟨gX, 2, none⟩ = some (.int .u64 (f2 : Int)) ∧ W'.cell? ⟨gX, 3, none⟩ = some (.int .u64 (f3 : Int)) ∧ W'.cell? ⟨gX, 4, none⟩ = some (.string a0_4) ∧ W'.cell? ⟨gX, 5, none⟩ = some (.bool true))
        (exact ⟨H.out, blk_cell H.out 0, blk_cell H.out 1, blk_cell H.out 2, blk_cell H.out 3, blk_cell H.out 4, blk_cell H.out 5⟩)
        (first
          | (go_at_call 26; refine (cursor_Eight.calls 65 _ _ _ E1.out).mono ?_; rintro e w1 ⟨rfl, hb⟩; have H := Aside0.mk (blk_below (by exact H.out) hb); have HI := Aside0.mk (has_below (by exact HI.out) hb); have HB := Aside0.mk (below_step (by first | exact HB.out | exact HB.out.drew | exact pw_below_drewN HB.out _) hb); clear hb)
          | (go_at_call 26; refine (cursor_Eight.calls 65 _ _ _ E2.out).mono ?_; rintro e w1 ⟨rfl, hb⟩; have H := Aside0.mk (blk_below (by exact H.out) hb); have HI := Aside0.mk (has_below (by exact HI.out) hb); have HB := Aside0.mk (below_step (by first | exact HB.out | exact HB.out.drew | exact pw_below_drewN HB.out _) hb); clear hb)
          | (go_at_call 26; refine (cursor_Eight.calls 65 _ _ _ E3.out).mono ?_; rintro e w1 ⟨rfl, hb⟩; have H := Aside0.mk (blk_below (by exact H.out) hb); have HI := Aside0.mk (has_below (by exact HI.out) hb); have HB := Aside0.mk (below_step (by first | exact HB.out | exact HB.out.drew | exact pw_below_drewN HB.out _) hb); clear hb)
          | (go_at_call 25; refine (writeK_calls gS gS _ _ _ HI.out (by (try simp [S2.out, S4.out, S8.out, M5.out, M6.out, M7.out]) <;> omega) (by exact Nat.le_of_lt (has_lt HI.out).2)).mono ?_; rintro e w1 ⟨rfl, hat, hb, ho⟩; have H := Aside0.mk (oth_blk ho (by exact H.out) (by have := HG.out; omega) (by decide)); have HI := Aside0.mk hat; have HB := Aside0.mk ((by first | exact HB.out | exact HB.out.drew | exact pw_below_drewN HB.out _ : Below w.heap.size w _).trans (hb.mono (by have := HG.out; omega))); clear hat hb ho))
    go_upto_region 11 with (fail)
    go_region_held3 (fun W' => W'.heap[gX]? = some (.cells #[.int .i64 a0_0, .int .u64 (f1 : Int), .int .u64 (f2 : Int), .int .u64 (f3 : Int), .string a0_4, .bool true] 25 (0, 0)) ∧ W'.cell? ⟨gX, 0, none⟩ = some (.int .i64 a0_0) ∧ W'.cell? ⟨gX, 1, none⟩ = some (.int .u64 (f1 : Int)) ∧ W'.cell? ⟨gX, 2, none⟩ = some (.int .u64 (f2 : Int)) ∧ W'.cell? ⟨gX, 3, none⟩ = some (.int .u64 (f3 : Int)) ∧ W'.cell? ⟨gX, 4, none⟩ = some (.string a0_4) ∧ W'.cell? ⟨gX, 5, none⟩ = some (.bool true))
        (exact ⟨H.out, blk_cell H.out 0, blk_cell H.out 1, blk_cell H.out 2, blk_cell H.out 3, blk_cell H.out 4, blk_cell H.out 5⟩)
        (first
          | (go_at_call 28; refine (cursor_Four.calls 65 _ _ _ F0.out).mono ?_; rintro e w1 ⟨rfl, hb⟩; have H := Aside0.mk (blk_below (by exact H.out) hb); have HI := Aside0.mk (has_below (by exact HI.out) hb); have HB := Aside0.mk (below_step (by first | exact HB.out | exact HB.out.drew | exact pw_below_drewN HB.out _) hb); clear hb)
          | (go_at_call 26; refine (cursor_Eight.calls 65 _ _ _ ES.out).mono ?_; rintro e w1 ⟨rfl, hb⟩; have H := Aside0.mk (blk_below (by exact H.out) hb); have HI := Aside0.mk (has_below (by exact HI.out) hb); have HB := Aside0.mk (below_step (by first | exact HB.out | exact HB.out.drew | exact pw_below_drewN HB.out _) hb); clear hb)
          | (go_at_call 28; refine (cursor_Four.calls 65 _ _ _ F1.out).mono ?_; rintro e w1 ⟨rfl, hb⟩; have H := Aside0.mk (blk_below (by exact H.out) hb); have HI := Aside0.mk (has_below (by exact HI.out) hb); have HB := Aside0.mk (below_step (by first | exact HB.out | exact HB.out.drew | exact pw_below_drewN HB.out _) hb); clear hb)
          | (go_at_call 25; refine (writeK_calls gS gS _ _ _ HI.out (by (try simp [S2.out, S4.out, S8.out, M5.out, M6.out, M7.out]) <;> omega) (by exact Nat.le_of_lt (has_lt HI.out).2)).mono ?_; rintro e w1 ⟨rfl, hat, hb, ho⟩; have H := Aside0.mk (oth_blk ho (by exact H.out) (by have := HG.out; omega) (by decide)); have HI := Aside0.mk hat; have HB := Aside0.mk ((by first | exact HB.out | exact HB.out.drew | exact pw_below_drewN HB.out _ : Below w.heap.size w _).trans (hb.mono (by have := HG.out; omega))); clear hat hb ho))
    go_upto_region 13 with (first
          | (go_at_call 27; refine (cursor_Two.calls 65 _ _ _ T0.out).mono ?_; rintro e w1 ⟨rfl, hb⟩; have H := Aside0.mk (blk_below (by exact H.out) hb); have HI := Aside0.mk (has_below (by exact HI.out) hb); have HB := Aside0.mk (below_step (by first | exact HB.out | exact HB.out.drew | exact pw_below_drewN HB.out _) hb); clear hb)
          | (go_at_call 27; refine (cursor_Two.calls 65 _ _ _ TM.out).mono ?_; rintro e w1 ⟨rfl, hb⟩; have H := Aside0.mk (blk_below (by exact H.out) hb); have HI := Aside0.mk (has_below (by exact HI.out) hb); have HB := Aside0.mk (below_step (by first | exact HB.out | exact HB.out.drew | exact pw_below_drewN HB.out _) hb); clear hb)
          | (go_at_call 28; refine (cursor_Four.calls 65 _ _ _ FM.out).mono ?_; rintro e w1 ⟨rfl, hb⟩; have H := Aside0.mk (blk_below (by exact H.out) hb); have HI := Aside0.mk (has_below (by exact HI.out) hb); have HB := Aside0.mk (below_step (by first | exact HB.out | exact HB.out.drew | exact pw_below_drewN HB.out _) hb); clear hb)
          | (go_at_call 25; refine (writeK_calls gS gS _ _ _ HI.out (by (try simp [S2.out, S4.out, S8.out, M5.out, M6.out, M7.out]) <;> omega) (by exact Nat.le_of_lt (has_lt HI.out).2)).mono ?_; rintro e w1 ⟨rfl, hat, hb, ho⟩; have H := Aside0.mk (oth_blk ho (by exact H.out) (by have := HG.out; omega) (by decide)); have HI := Aside0.mk hat; have HB := Aside0.mk ((by first | exact HB.out | exact HB.out.drew | exact pw_below_drewN HB.out _ : Below w.heap.size w _).trans (hb.mono (by have := HG.out; omega))); clear hat hb ho))
    go_region_held3 (fun W' => W'.heap[gX]? = some (.cells #[.int .i64 a0_0, .int .u64 (f1 : Int), .int .u64 (f2 : Int), .int .u64 (f3 : Int), .string a0_4, .bool true] 25 (0, 0)) ∧ W'.cell? ⟨gX, 0, none⟩ = some (.int .i64 a0_0) ∧ W'.cell? ⟨gX, 1, none⟩ = some (.int .u64 (f1 : Int)) ∧ W'.cell? ⟨gX, 2, none⟩ = some (.int .u64 (f2 : Int)) ∧ W'.cell? ⟨gX, 3, none⟩ = some (.int .u64 (f3 : Int)) ∧ W'.cell? ⟨gX, 4, none⟩ = some (.string a0_4) ∧ W'.cell? ⟨gX, 5, none⟩ = some (.bool true))
        (exact ⟨H.out, blk_cell H.out 0, blk_cell H.out 1, blk_cell H.out 2, blk_cell H.out 3, blk_cell H.out 4, blk_cell H.out 5⟩)
        (first
          | (go_at_call 27; refine (cursor_Two.calls 65 _ _ _ TL.out).mono ?_; rintro e w1 ⟨rfl, hb⟩; have H := Aside0.mk (blk_below (by exact H.out) hb); have HI := Aside0.mk (has_below (by exact HI.out) hb); have HB := Aside0.mk (below_step (by first | exact HB.out | exact HB.out.drew | exact pw_below_drewN HB.out _) hb); clear hb)
          | (go_at_call 25; refine (writeK_calls gS gS _ _ _ HI.out (by (try simp [S2.out, S4.out, S8.out, M5.out, M6.out, M7.out]) <;> omega) (by exact Nat.le_of_lt (has_lt HI.out).2)).mono ?_; rintro e w1 ⟨rfl, hat, hb, ho⟩; have H := Aside0.mk (oth_blk ho (by exact H.out) (by have := HG.out; omega) (by decide)); have HI := Aside0.mk hat; have HB := Aside0.mk ((by first | exact HB.out | exact HB.out.drew | exact pw_below_drewN HB.out _ : Below w.heap.size w _).trans (hb.mono (by have := HG.out; omega))); clear hat hb ho))
    go_wp2_with (go_at_call 29; refine (stringK_calls gS gS _ _ HI.out (by exact Nat.le_of_lt (has_lt HI.out).2)).mono ?_; rintro e w1 ⟨rfl, hat, hb, ho⟩; have HB := Aside0.mk (HB.out.trans (hb.mono (by have := HG.out; omega))); clear hat hb ho)
    have hr := HRES.out
    simp only [if_true] at hr
    obtain ⟨he1, he2⟩ := Prod.mk.inj hr
    first | go_ret2 | go_ret
    refine ⟨?_, HB.out⟩
    rw [← he1, ← he2]
    simp [strN, endB, wideB]
  | false =>
    have hr0 := HRES.out
    simp only [Bool.false_eq_true, if_false] at hr0
    clear HRES
    by_cases hn : 65535 ≤ f1
    · rw [if_pos hn] at hr0
      obtain ⟨rfl, rfl⟩ : (⟨#[]⟩ : ByteArray) = r1 ∧ 8 = r2 := by simpa using hr0
      have hdn : decide ((65535 : Int) ≤ (f1 : Int)) = true := decide_eq_true (by omega)
      clear hr0 hn B1 B2 B3 hsum hcl hS2 hS4 hS8 hq hq2 hq3 hq4
      go_enter Try.func10, Try.ntmps10
      go_wp2
      first | go_ret2 | go_ret
      exact ⟨rfl, HB0.out⟩
    rw [if_neg hn] at hr0
    have hdn : decide ((65535 : Int) ≤ (f1 : Int)) = false := decide_eq_false (by omega)
    by_cases hz : 4294967295 ≤ f2
    · rw [if_pos hz] at hr0
      obtain ⟨rfl, rfl⟩ : (⟨#[]⟩ : ByteArray) = r1 ∧ 8 = r2 := by simpa using hr0
      have hdz : decide ((4294967295 : Int) ≤ (f2 : Int)) = true := decide_eq_true (by omega)
      clear hr0 hz B1 B2 B3 hsum hcl hS2 hS4 hS8 hq hq2 hq3 hq4
      go_enter Try.func10, Try.ntmps10
      go_wp2
      first | go_ret2 | go_ret
      exact ⟨rfl, HB0.out⟩
    rw [if_neg hz] at hr0
    have hdz : decide ((4294967295 : Int) ≤ (f2 : Int)) = false := decide_eq_false (by omega)
    by_cases ho : 4294967295 ≤ f3
    · rw [if_pos ho] at hr0
      obtain ⟨rfl, rfl⟩ : (⟨#[]⟩ : ByteArray) = r1 ∧ 8 = r2 := by simpa using hr0
      have hdo : decide ((4294967295 : Int) ≤ (f3 : Int)) = true := decide_eq_true (by omega)
      clear hr0 ho B1 B2 B3 hsum hcl hS2 hS4 hS8 hq hq2 hq3 hq4
      go_enter Try.func10, Try.ntmps10
      go_wp2
      first | go_ret2 | go_ret
      exact ⟨rfl, HB0.out⟩
    rw [if_neg ho] at hr0
    have hdo : decide ((4294967295 : Int) ≤ (f3 : Int)) = false := decide_eq_false (by omega)
    have HRES := Aside0.mk hr0
    clear hr0
    have hw1 : IntKind.u16.wrap (f1 : Int) = (f1 : Int) := by rw [u16_mod]; omega
    have hw2 : IntKind.u32.wrap (f2 : Int) = (f2 : Int) := by simp [IntKind.wrap, IntKind.bits, IntKind.signed]; omega
    have hw3 : IntKind.u32.wrap (f3 : Int) = (f3 : Int) := by simp [IntKind.wrap, IntKind.bits, IntKind.signed]; omega
    have TN := Aside0.mk (two_eq f1 (by omega) 65 (by decide))
    have FZ := Aside0.mk (four_eq f2 (by omega) 65 (by decide))
    have FO := Aside0.mk (four_eq f3 (by omega) 65 (by decide))
    go_enter Try.func10, Try.ntmps10
    go_upto_region 6 with (fail)
    have H := Aside0.mk (blk_alloc (heap_alloc_new w (.cells #[.int .i64 a0_0, .int .u64 (f1 : Int), .int .u64 (f2 : Int), .int .u64 (f3 : Int), .string a0_4, .bool false] 25)) (.cells #[.pointer none, .slice none 0 0] 61))
    have HI := Aside0.mk (has_fresh (w.alloc (.cells #[.int .i64 a0_0, .int .u64 (f1 : Int), .int .u64 (f2 : Int), .int .u64 (f3 : Int), .string a0_4, .bool false] 25)))
    have HB := Aside0.mk (below_alloc (below_alloc (Below.refl w.heap.size w) (.cells #[.int .i64 a0_0, .int .u64 (f1 : Int), .int .u64 (f2 : Int), .int .u64 (f3 : Int), .string a0_4, .bool false] 25)) (.cells #[.pointer none, .slice none 0 0] 61))
    have hgs : (w.alloc (.cells #[.int .i64 a0_0, .int .u64 (f1 : Int), .int .u64 (f2 : Int), .int .u64 (f3 : Int), .string a0_4, .bool false] 25)).heap.size = w.heap.size + 1 := by simp
    rw [hgs] at HI
    generalize hW : (w.alloc (.cells #[.int .i64 a0_0, .int .u64 (f1 : Int), .int .u64 (f2 : Int), .int .u64 (f3 : Int), .string a0_4, .bool false] 25)).alloc (.cells #[.pointer none, .slice none 0 0] 61) = W0 at H HI HB ⊢
    obtain ⟨gS, hgS⟩ : ∃ g, w.heap.size + 1 = g := ⟨_, rfl⟩
    obtain ⟨gX, hgX⟩ : ∃ g, w.heap.size = g := ⟨_, rfl⟩
    have HG := Aside0.mk (show gX = w.heap.size ∧ gS = w.heap.size + 1 ∧ gX ≠ gS ∧ w.heap.size ≤ gS by omega)
    rw [hgS] at HI ⊢
    rw [hgX] at H ⊢
    clear hgs hW hgS hgX
    have hc0 := blk_cell H.out 0
    have hc1 := blk_cell H.out 1
    have hc2 := blk_cell H.out 2
    have hc3 := blk_cell H.out 3
    have hc4 := blk_cell H.out 4
    have hc5 := blk_cell H.out 5
    go_quiet (fail)
    go_upto_region 13 with (first
          | (go_at_call 27; refine (cursor_Two.calls 65 _ _ _ T0.out).mono ?_; rintro e w1 ⟨rfl, hb⟩; have H := Aside0.mk (blk_below (by exact H.out) hb); have HI := Aside0.mk (has_below (by exact HI.out) hb); have HB := Aside0.mk (below_step (by first | exact HB.out | exact HB.out.drew | exact pw_below_drewN HB.out _) hb); clear hb)
          | (go_at_call 27; refine (cursor_Two.calls 65 _ _ _ TN.out).mono ?_; rintro e w1 ⟨rfl, hb⟩; have H := Aside0.mk (blk_below (by exact H.out) hb); have HI := Aside0.mk (has_below (by exact HI.out) hb); have HB := Aside0.mk (below_step (by first | exact HB.out | exact HB.out.drew | exact pw_below_drewN HB.out _) hb); clear hb)
          | (go_at_call 28; refine (cursor_Four.calls 65 _ _ _ FZ.out).mono ?_; rintro e w1 ⟨rfl, hb⟩; have H := Aside0.mk (blk_below (by exact H.out) hb); have HI := Aside0.mk (has_below (by exact HI.out) hb); have HB := Aside0.mk (below_step (by first | exact HB.out | exact HB.out.drew | exact pw_below_drewN HB.out _) hb); clear hb)
          | (go_at_call 28; refine (cursor_Four.calls 65 _ _ _ FO.out).mono ?_; rintro e w1 ⟨rfl, hb⟩; have H := Aside0.mk (blk_below (by exact H.out) hb); have HI := Aside0.mk (has_below (by exact HI.out) hb); have HB := Aside0.mk (below_step (by first | exact HB.out | exact HB.out.drew | exact pw_below_drewN HB.out _) hb); clear hb)
          | (go_at_call 25; refine (writeK_calls gS gS _ _ _ HI.out (by (try simp [S2.out, S4.out, S8.out, M5.out, M6.out, M7.out]) <;> omega) (by exact Nat.le_of_lt (has_lt HI.out).2)).mono ?_; rintro e w1 ⟨rfl, hat, hb, ho⟩; have H := Aside0.mk (oth_blk ho (by exact H.out) (by have := HG.out; omega) (by decide)); have HI := Aside0.mk hat; have HB := Aside0.mk ((by first | exact HB.out | exact HB.out.drew | exact pw_below_drewN HB.out _ : Below w.heap.size w _).trans (hb.mono (by have := HG.out; omega))); clear hat hb ho))
    go_region_held3 (fun W' => W'.heap[gX]? = some (.cells #[.int .i64 a0_0, .int .u64 (f1 : Int), .int .u64 (f2 : Int), .int .u64 (f3 : Int), .string a0_4, .bool false] 25 (0, 0)) ∧ W'.cell? ⟨gX, 0, none⟩ = some (.int .i64 a0_0) ∧ W'.cell? ⟨gX, 1, none⟩ = some (.int .u64 (f1 : Int)) ∧ W'.cell? ⟨gX, 2, none⟩ = some (.int .u64 (f2 : Int)) ∧ W'.cell? ⟨gX, 3, none⟩ = some (.int .u64 (f3 : Int)) ∧ W'.cell? ⟨gX, 4, none⟩ = some (.string a0_4) ∧ W'.cell? ⟨gX, 5, none⟩ = some (.bool false))
        (exact ⟨H.out, blk_cell H.out 0, blk_cell H.out 1, blk_cell H.out 2, blk_cell H.out 3, blk_cell H.out 4, blk_cell H.out 5⟩)
        (first
          | (go_at_call 27; refine (cursor_Two.calls 65 _ _ _ TL.out).mono ?_; rintro e w1 ⟨rfl, hb⟩; have H := Aside0.mk (blk_below (by exact H.out) hb); have HI := Aside0.mk (has_below (by exact HI.out) hb); have HB := Aside0.mk (below_step (by first | exact HB.out | exact HB.out.drew | exact pw_below_drewN HB.out _) hb); clear hb)
          | (go_at_call 25; refine (writeK_calls gS gS _ _ _ HI.out (by (try simp [S2.out, S4.out, S8.out, M5.out, M6.out, M7.out]) <;> omega) (by exact Nat.le_of_lt (has_lt HI.out).2)).mono ?_; rintro e w1 ⟨rfl, hat, hb, ho⟩; have H := Aside0.mk (oth_blk ho (by exact H.out) (by have := HG.out; omega) (by decide)); have HI := Aside0.mk hat; have HB := Aside0.mk ((by first | exact HB.out | exact HB.out.drew | exact pw_below_drewN HB.out _ : Below w.heap.size w _).trans (hb.mono (by have := HG.out; omega))); clear hat hb ho))
    go_wp2_with (go_at_call 29; refine (stringK_calls gS gS _ _ HI.out (by exact Nat.le_of_lt (has_lt HI.out).2)).mono ?_; rintro e w1 ⟨rfl, hat, hb, ho⟩; have HB := Aside0.mk (HB.out.trans (hb.mono (by have := HG.out; omega))); clear hat hb ho)
    have hr := HRES.out
    obtain ⟨he1, he2⟩ := Prod.mk.inj hr
    first | go_ret2 | go_ret
    refine ⟨?_, HB.out⟩
    rw [← he1, ← he2]
    simp [strN, endB, wideB]
end Go.Proofs.Ytdooampgkiodjaa.P
namespace Go.Proofs.Ytdooampgkiodjaa.Num
set_option linter.unusedVariables false
set_option linter.unusedSimpArgs false
open Go Go.RowKit Go.Proofs.Ytdooampgkiodjaa.P Go.Proofs.Ytdooampgkiodjaa.B Go.Proofs.YtdooampgkiodjaaW.PrintWords Go.Proofs.YtdooampgkiodjaaW.PrintLast Go.Proofs.YtdooampgkiodjaaW.PrintMore
theorem ref_number_loop (s : ByteArray) (hs : s.size ≤ 8) : ∀ (i k : Nat), i ≤ s.size → i < k →
    portmanteauref01_Number.l0 k s ((leN (s.data.toList.drop i) : Nat) : Int) ((i : Int) - 1) = some ((leN s.data.toList : Nat) : Int) := by
  have hl : s.data.toList.length = s.size := toList_length s
  intro i
  induction i with
  | zero =>
    intro k hd hk
    obtain ⟨k, rfl⟩ : ∃ m, k = m + 1 := ⟨k - 1, by omega⟩
    simp only [portmanteauref01_Number.l0]
    rw [if_neg (by omega)]
    simp
  | succ i ih =>
    intro k hd hk
    obtain ⟨k, rfl⟩ : ∃ m, k = m + 1 := ⟨k - 1, by omega⟩
    have hlt : i < s.data.toList.length := by omega
    have hb := bt_nat s i hlt
    have ht := leN_lt (s.data.toList.drop i)
    have hp : 256 ^ (s.data.toList.drop i).length ≤ 256 ^ 8 := Nat.pow_le_pow_right (by decide) (by simp; omega)
    have e : leN (s.data.toList.drop i) = (s.data.toList[i]).toNat + 256 * leN (s.data.toList.drop (i + 1)) := by
      rw [List.drop_eq_getElem_cons hlt]; rfl
    have hb2 := UInt8.toNat_lt (s.data.toList[i])
    simp only [portmanteauref01_Number.l0]
    rw [show (((i + 1 : Nat) : Int) - 1) = (i : Int) by omega, if_pos (by omega), if_pos (by omega), if_pos (by omega), hb, wrap_id (by omega) (by omega),
      u64_id (x := ((s.data.toList[i]).toNat : Int)) (by omega) (by omega), u64_id (x := ((leN (s.data.toList.drop (i + 1)) : Nat) : Int) * 256) (by omega) (by omega), u64_id (by omega) (by omega)]
    rw [show ((leN (s.data.toList.drop (i + 1)) : Nat) : Int) * 256 + ((s.data.toList[i]).toNat : Int) = ((leN (s.data.toList.drop i) : Nat) : Int) by omega]
    exact ih k (by omega) (by omega)
theorem ref_number_eq (s : ByteArray) (hs : s.size ≤ 8) (k : Nat) (hk : 8 < k) : portmanteauref01_Number.f k s = some ((leN s.data.toList : Nat) : Int) := by
  have := ref_number_loop s hs s.size k (by omega) (by omega)
  rw [List.drop_of_length_le (by simp)] at this
  unfold portmanteauref01_Number.f
  rw [wrap_id (by omega) (by omega)]
  exact this
end Go.Proofs.Ytdooampgkiodjaa.Num
namespace Go.Proofs.Ytdooampgkiodjaa.Opens
set_option linter.unusedVariables false
set_option linter.unusedSimpArgs false
open Go Go.RowKit Go.Proofs.YtdooampgkiodjaaW.PrintWords Go.Proofs.YtdooampgkiodjaaW.PrintLast Go.Proofs.YtdooampgkiodjaaW.PrintMore
section
variable {P : Program}
structure Opens {α : Type} (P : Program) (t : TypeId) (d : Kd α) (ok : α → Prop) : Prop where
  size : P.cellsOf t = d.sz
  get : ∀ {H : Type} {enc : TypeId × Value → H} {w : World} {base : Nat} {spare : Nat → Bool} {held : Bool} {fuel : Nat} {cs : List Value} {x : DataW H × List MemPlace},
    DataW.trod enc P w base spare held fuel t cs = some x → ∃ a, d.K w a cs ∧ ok a
theorem Opens.int {t : TypeId} {k : IntKind} (hu : P.underlying t = some (.int k)) (hs : P.cellsOf t = 1) : Opens P t (Kd.int k) (fun n => (Lit.int k n).wf = true) :=
  ⟨hs, fun h => by obtain ⟨n, rfl, _, hw⟩ := DataW.trod_int hu h; exact ⟨n, rfl, hw⟩⟩
theorem Opens.bool {t : TypeId} (hu : P.underlying t = some .bool) (hs : P.cellsOf t = 1) : Opens P t Kd.bool (fun _ => True) :=
  ⟨hs, fun h => by obtain ⟨b, rfl, _⟩ := DataW.trod_bool hu h; exact ⟨b, rfl, trivial⟩⟩
theorem Opens.string {t : TypeId} (hu : P.underlying t = some .string) (hs : P.cellsOf t = 1) : Opens P t Kd.string (fun s => s.size ≤ maxLen) :=
  ⟨hs, fun h => by obtain ⟨s, rfl, _, hl⟩ := DataW.trod_string hu h; exact ⟨s, rfl, hl⟩⟩
theorem slice_row {α : Type} {t e : TypeId} {d : Kd α} {ok : α → Prop} (hu : P.underlying t = some (.slice e)) (ho : Opens P e d ok)
    {H : Type} {enc : TypeId × Value → H} {w : World} {base : Nat} {spare : Nat → Bool} {held : Bool} {fuel : Nat} {cs : List Value} {x : DataW H × List MemPlace}
    (h : DataW.trod enc P w base spare held fuel t cs = some x) :
    ∃ A c, ∃ xs : List α, cs = [.slice A xs.length c] ∧ xs.length ≤ c ∧ d.C w A xs.length xs ∧ (∀ a ∈ xs, ok a) ∧ (x.1 = .nil ∧ xs = [] ∨ ∃ elems rest, x.1 = .slice elems rest ∧ elems.length = xs.length) := by
  rcases DataW.trod_slice hu h with ⟨rfl, rfl⟩ | ⟨a, len, cap, elems, rest, n, _, rfl, rfl, _, hl, hm, hlen, hel, _, _⟩
  · exact ⟨none, 0, [], rfl, Nat.le_refl _, ⟨rfl, by simp, fun h0 => absurd h0 (by simp)⟩, (fun a ha => by cases ha), .inl ⟨rfl, rfl⟩⟩
  · have each : ∀ i : Fin len, ∃ p, ok p ∧ ∃ c, c.length = d.sz ∧ d.K w p c ∧ ∀ j u, c[j]? = some u → w.cell? (a.add (i * d.sz + j)) = some u := by
      intro i
      have h1 := hel i i.2
      have h2 : (i : Nat) < elems.length := by have := i.2; omega
      rw [List.getElem?_eq_getElem h2, Option.bind_eq_some_iff] at h1
      obtain ⟨cs', hcs, ht⟩ := h1
      obtain ⟨_, hcl, hcc⟩ := World.cells?_some hcs
      obtain ⟨p, hp, hok⟩ := ho.get ht
      rw [ho.size] at hcl hcc
      refine ⟨p, hok, cs', hcl, hp, fun j u hj => ?_⟩
      have hj2 : j < d.sz := by
        rw [← hcl]
        exact (List.getElem?_eq_some_iff.1 hj).1
      have h3 := hcc j hj2
      rw [hj] at h3
      rw [← h3, add_add]
    have hg : ∀ (j : Nat) (p : α), (List.ofFn fun i => Classical.choose (each i))[j]? = some p → ∃ hj : j < len, p = Classical.choose (each ⟨j, hj⟩) := by
      intro j p hp
      obtain ⟨hj, he⟩ := List.getElem?_eq_some_iff.1 hp
      rw [List.length_ofFn] at hj
      refine ⟨hj, ?_⟩
      rw [← he, List.getElem_ofFn]
    refine ⟨some a, cap, List.ofFn fun i => Classical.choose (each i), by rw [List.length_ofFn], by rw [List.length_ofFn]; exact hl, ⟨rfl, ?_, fun _ => ⟨a, rfl, fun j p hp => ?_⟩⟩, ?_, .inr ⟨_, _, rfl, by rw [List.length_ofFn, List.length_map, hlen]⟩⟩
    · rw [List.length_ofFn]
      unfold maxLen at hm
      omega
    · obtain ⟨hj, rfl⟩ := hg j p hp
      obtain ⟨_, c, hc, hk, hcell⟩ := Classical.choose_spec (each ⟨j, hj⟩)
      exact ⟨c, hc, hk, hcell⟩
    · intro p hp
      obtain ⟨j, hj⟩ := List.getElem?_of_mem hp
      obtain ⟨hj', rfl⟩ := hg j p hj
      exact (Classical.choose_spec (each ⟨j, hj'⟩)).1
theorem Opens.slice {α : Type} {t e : TypeId} {d : Kd α} {ok : α → Prop} (hu : P.underlying t = some (.slice e)) (hs : P.cellsOf t = 1) (ho : Opens P e d ok) : Opens P t (Kd.slice e d) (fun xs => ∀ a ∈ xs, ok a) :=
  ⟨hs, fun h => by obtain ⟨A, c, xs, rfl, hl, hc, hok, _⟩ := slice_row hu ho h; exact ⟨xs, ⟨A, c, rfl, hl, hc⟩, hok⟩⟩
end
end Go.Proofs.Ytdooampgkiodjaa.Opens
namespace Go.Proofs.Ytdooampgkiodjaa.D18
set_option linter.unusedVariables false
set_option linter.unusedSimpArgs false
open Go Go.RowKit Go.Proofs.Ytdooampgkiodjaa.P Go.Proofs.Ytdooampgkiodjaa.B Go.Proofs.Ytdooampgkiodjaa.Num Go.Proofs.Ytdooampgkiodjaa.Cur Go.Proofs.YtdooampgkiodjaaW.PrintWords Go.Proofs.YtdooampgkiodjaaW.PrintLast Go.Proofs.YtdooampgkiodjaaW.PrintMore
theorem strN_list (l : List UInt8) : (strN l).toList = l := by rw [toL]; rfl
theorem ext_list_of (s : ByteArray) (a b : Nat) (X M Z : List UInt8) (h : s.data.toList = X ++ (M ++ Z)) (ha : a = X.length) (hb : b = X.length + M.length) : (s.extract a b).data.toList = M := by
  rw [extract_list, h, ha, hb, ← List.append_assoc, ← List.length_append, List.take_left, List.drop_left]
theorem leOf2 (n : Nat) (h : n < 65536) : leN (ofN 2 n) = n := by rw [leN_ofN]; omega
theorem leOf4 (n : Nat) (h : n < 4294967296) : leN (ofN 4 n) = n := by rw [leN_ofN]; omega
theorem leOf8 (n : Nat) (h : n < 18446744073709551616) : leN (ofN 8 n) = n := by rw [leN_ofN]; omega
def endR (n z o : Nat) (c : List UInt8) : List UInt8 := ofN 2 0 ++ (ofN 2 0 ++ (ofN 2 n ++ (ofN 2 n ++ (ofN 4 z ++ (ofN 4 o ++ (ofN 2 c.length ++ c))))))
theorem endB_eq (n z o : Nat) (c : List UInt8) : endB n z o c = [80, 75, 5, 6] ++ endR n z o c := by
  unfold endB endR
  rw [List.append_assoc, List.append_assoc, List.append_assoc, List.append_assoc, List.append_assoc, List.append_assoc]
theorem at_nil {s : ByteArray} {a : Int} {R : List UInt8} (h : At s a R) : At s a (R ++ []) := by rw [List.append_nil]; exact h
theorem endB_len (n z o : Nat) (c : List UInt8) : (endB n z o c).length = 22 + c.length := by
  simp [endB, ofN_length]; omega
theorem low_bound (s : ByteArray) (X d : Nat) (hs : s.size = X + d) (hd : d ≤ 65557) (hs2 : s.size ≤ 1000000000) : ((X : Nat) : Int) ≥ mx 0 (wrap64 ((wrap64 ((s.size : Int) - 22)) - 65535)) := by
  rw [wrap_id (x := (s.size : Int) - 22) (by omega) (by omega), wrap_id (by omega) (by omega)]
  unfold mx
  split <;> omega
set_option maxHeartbeats 8000000 in
theorem last_hit (s : ByteArray) (X c : List UInt8) (n z o : Nat) (h : s.data.toList = X ++ endB n z o c) (hn : n < 65536) (hz : z < 4294967296) (ho : o < 4294967296) (hX : X.length ≤ 1000000) (hc : c.length ≤ 65535) (k : Nat) (hk : 8 < k) :
    tail_last.l0 (k + 1) s (X.length : Int) = some ((X.length : Int), 0, 0, (n : Int), (n : Int), (z : Int), (o : Int), strN c, true) := by
  have hsz : s.size = X.length + (22 + c.length) := by rw [← toList_length s, h, List.length_append, endB_len]
  have e0 : leN (ofN 2 0) = 0 := leOf2 _ (by omega)
  have en : leN (ofN 2 n) = n := leOf2 _ (by omega)
  have ez : leN (ofN 4 z) = z := leOf4 _ (by omega)
  have eo : leN (ofN 4 o) = o := leOf4 _ (by omega)
  have ec : leN (ofN 2 c.length) = c.length := leOf2 _ (by omega)
  have hD : (s.extract X.length s.size).data.toList = [80, 75, 5, 6] ++ endR n z o c := by
    rw [ext_list_of s _ _ X (endB n z o c) [] (by rw [List.append_nil]; exact h) rfl (by rw [endB_len]; omega), endB_eq]
  obtain ⟨e, he⟩ : ∃ e, s.extract X.length s.size = e := ⟨_, rfl⟩
  rw [he] at hD
  have hes : e.size ≤ 140737488351232 := by rw [← toList_length e, hD, ← endB_eq, endB_len]; omega
  have b1 := low_bound s X.length (22 + c.length) hsz (by omega) (by omega)
  have b2 : (0 : Int) ≤ (X.length : Int) := by omega
  have b3 : (X.length : Int) ≤ (s.size : Int) := by omega
  have u1 : IntKind.u64.wrap (X.length : Int) = X.length := u64_id (by omega) (by omega)
  have u2 : IntKind.u64.wrap (n : Int) = n := u64_id (by omega) (by omega)
  have u3 : IntKind.u64.wrap (z : Int) = z := u64_id (by omega) (by omega)
  have u4 : IntKind.u64.wrap (o : Int) = o := u64_id (by omega) (by omega)
  have w0 : wrap64 (c.length : Int) = c.length := wrap_id (by omega) (by omega)
  have u5 : IntKind.u64.wrap ((0 : Nat) : Int) = 0 := by decide
  have A0 := At.start e hes
  rw [hD] at A0
  have t1 := take_at (n := 4) A0 rfl
  have A1 := A0.on
  unfold endR at A1
  have t2 := two_at A1 (ofN_length 2 0) k hk
  have A2 := A1.on
  have t3 := two_at A2 (ofN_length 2 0) k hk
  have A3 := A2.on
  have t4 := two_at A3 (ofN_length 2 n) k hk
  have A4 := A3.on
  have t5 := two_at A4 (ofN_length 2 n) k hk
  have A5 := A4.on
  have t6 := four_at A5 (ofN_length 4 z) k hk
  have A6 := A5.on
  have t7 := four_at A6 (ofN_length 4 o) k hk
  have A7 := A6.on
  have t8 := two_at A7 (ofN_length 2 c.length) k hk
  have A8 := A7.on
  have t9 := left_at A8
  have A8' := at_nil A8
  have t10 := take_at (n := (c.length : Int)) A8' rfl
  rw [e0] at t2 t3
  rw [en] at t4 t5
  rw [ez] at t6
  rw [eo] at t7
  rw [ec] at t8
  unfold tail_last.l0
  rw [if_pos b1, if_pos b2, if_pos b3, Int.toNat_natCast, he, show cursor_Over.f e = some (e, 0, 0) from rfl, Option.bind_some]
  dsimp only
  rw [t1, Option.bind_some]; dsimp only
  rw [if_pos (by rw [strN_list]), t2, Option.bind_some]; dsimp only
  rw [t3, Option.bind_some]; dsimp only
  rw [t4, Option.bind_some]; dsimp only
  rw [t5, Option.bind_some]; dsimp only
  rw [t6, Option.bind_some]; dsimp only
  rw [t7, Option.bind_some]; dsimp only
  rw [t8, Option.bind_some]; dsimp only
  unfold cursor_Cursor_Left.f
  rw [Option.bind_some]; dsimp only
  rw [t9, w0, if_pos rfl, t10, Option.bind_some]; dsimp only
  rw [u1, u2, u3, u4, u5]
set_option maxHeartbeats 8000000 in
theorem last_skip (s : ByteArray) (i : Nat) (hi : i + 22 ≤ s.size) (hl : s.size ≤ i + 65557) (hs : s.size ≤ 1000000000) (hm : (s.data.toList.drop i).take 4 ≠ [80, 75, 5, 6]) (k : Nat) :
    tail_last.l0 (k + 1) s (i : Int) = tail_last.l0 k s (wrap64 ((i : Int) - 1)) := by
  have b1 := low_bound s i (s.size - i) (by omega) (by omega) (by omega)
  have b2 : (0 : Int) ≤ (i : Int) := by omega
  have b3 : (i : Int) ≤ (s.size : Int) := by omega
  have hD : (s.extract i s.size).data.toList = (s.data.toList.drop i).take 4 ++ (s.data.toList.drop i).drop 4 := by
    rw [List.take_append_drop, extract_list, List.take_of_length_le (by rw [toList_length]; omega)]
  have hlen : ((s.data.toList.drop i).take 4).length = 4 := by rw [List.length_take, List.length_drop, toList_length]; omega
  obtain ⟨e, he⟩ : ∃ e, s.extract i s.size = e := ⟨_, rfl⟩
  rw [he] at hD
  have hes : e.size ≤ 140737488351232 := by rw [← he]; simp; omega
  have A0 := At.start e hes
  rw [hD] at A0
  have t1 := take_at (n := 4) A0 (by rw [hlen]; rfl)
  conv => lhs; unfold tail_last.l0
  rw [if_pos b1, if_pos b2, if_pos b3, Int.toNat_natCast, he, show cursor_Over.f e = some (e, 0, 0) from rfl, Option.bind_some]
  dsimp only
  rw [t1, Option.bind_some]; dsimp only
  rw [if_neg (by rw [strN_list]; exact hm)]
theorem last_find (s : ByteArray) (X c : List UInt8) (n z o : Nat) (h : s.data.toList = X ++ endB n z o c) (hn : n < 65536) (hz : z < 4294967296) (ho : o < 4294967296) (hX : X.length ≤ 1000000) (hc : c.length ≤ 65535)
    (hm : ∀ j, X.length < j → j ≤ X.length + c.length → (s.data.toList.drop j).take 4 ≠ [80, 75, 5, 6]) (k : Nat) (hk : 8 < k) : ∀ d, d ≤ c.length →
    tail_last.l0 (k + 1 + d) s ((X.length + d : Nat) : Int) = some ((X.length : Int), 0, 0, (n : Int), (n : Int), (z : Int), (o : Int), strN c, true)
  | 0, _ => last_hit s X c n z o h hn hz ho hX hc k hk
  | d + 1, hd => by
    have hsz : s.size = X.length + (22 + c.length) := by rw [← toList_length s, h, List.length_append, endB_len]
    have := last_skip s (X.length + (d + 1)) (by omega) (by omega) (by omega) (hm _ (by omega) (by omega)) (k + 1 + d)
    rw [show k + 1 + (d + 1) = k + 1 + d + 1 from rfl, this, wrap_id (by omega) (by omega), show ((X.length + (d + 1) : Nat) : Int) - 1 = ((X.length + d : Nat) : Int) by omega]
    exact last_find s X c n z o h hn hz ho hX hc hm k hk d (by omega)
theorem last_eq (s : ByteArray) (X c : List UInt8) (n z o : Nat) (h : s.data.toList = X ++ endB n z o c) (hn : n < 65536) (hz : z < 4294967296) (ho : o < 4294967296) (hX : X.length ≤ 1000000) (hc : c.length ≤ 65535)
    (hm : ∀ j, X.length < j → j ≤ X.length + c.length → (s.data.toList.drop j).take 4 ≠ [80, 75, 5, 6]) (k : Nat) (hk : c.length + 10 < k) :
    tail_last.f k s = some ((X.length : Int), 0, 0, (n : Int), (n : Int), (z : Int), (o : Int), strN c, true) := by
  have hsz : s.size = X.length + (22 + c.length) := by rw [← toList_length s, h, List.length_append, endB_len]
  have := last_find s X c n z o h hn hz ho hX hc hm (k - 1 - c.length) (by omega) c.length (Nat.le_refl _)
  rw [show k - 1 - c.length + 1 + c.length = k by omega] at this
  unfold tail_last.f
  rw [wrap_id (by omega) (by omega), show (s.size : Int) - 22 = ((X.length + c.length : Nat) : Int) by omega]
  exact this
def locB (x : Nat) : List UInt8 := [80, 75, 6, 7] ++ (ofN 4 0 ++ (ofN 8 x ++ (ofN 4 1 ++ [])))
set_option maxHeartbeats 8000000 in
theorem located_eq (s : ByteArray) (Y Z : List UInt8) (x : Nat) (h : s.data.toList = Y ++ (locB x ++ Z)) (hx : x ≤ Y.length) (hs : s.size ≤ 1000000000) (k : Nat) (hk : 8 < k) :
    tail_located.f k s ((Y.length + 20 : Nat) : Int) = some ((x : Int), true) := by
  have hL : (locB x).length = 20 := by simp [locB, ofN_length]
  have hsz : s.size = Y.length + (20 + Z.length) := by rw [← toList_length s, h, List.length_append, List.length_append, hL]
  have e0 : leN (ofN 4 0) = 0 := leOf4 _ (by omega)
  have e1 : leN (ofN 4 1) = 1 := leOf4 _ (by omega)
  have ex : leN (ofN 8 x) = x := leOf8 _ (by omega)
  have hD : (s.extract Y.length (Y.length + 20)).data.toList = locB x := ext_list_of s _ _ Y (locB x) Z h rfl (by rw [hL])
  obtain ⟨e, he⟩ : ∃ e, s.extract Y.length (Y.length + 20) = e := ⟨_, rfl⟩
  rw [he] at hD
  have hes : e.size ≤ 140737488351232 := by rw [← toList_length e, hD, hL]; omega
  have b0 : ¬ ((Y.length + 20 : Nat) : Int) < 20 := by omega
  have b1 : (0 : Int) ≤ (Y.length : Int) := by omega
  have b2 : (Y.length : Int) ≤ ((Y.length + 20 : Nat) : Int) := by omega
  have b3 : ((Y.length + 20 : Nat) : Int) ≤ (s.size : Int) := by omega
  have b4 : ¬ (x : Int) > (Y.length : Int) := by omega
  have u1 : IntKind.u64.wrap (Y.length : Int) = Y.length := u64_id (by omega) (by omega)
  have w1 : wrap64 (((Y.length + 20 : Nat) : Int) - 20) = (Y.length : Int) := by rw [wrap_id (by omega) (by omega)]; omega
  have w2 : wrap64 (x : Int) = x := wrap_id (by omega) (by omega)
  have A0 := At.start e hes
  rw [hD] at A0
  unfold locB at A0
  have t1 := take_at (n := 4) A0 rfl
  have A1 := A0.on
  have t2 := four_at A1 (ofN_length 4 0) k hk
  have A2 := A1.on
  have t3 := eight_at A2 (ofN_length 8 x) k hk
  have A3 := A2.on
  have t4 := four_at A3 (ofN_length 4 1) k hk
  rw [e0] at t2
  rw [ex] at t3
  rw [e1] at t4
  unfold tail_located.f
  rw [if_neg b0, w1, if_pos b1, if_pos b2, if_pos b3, Int.toNat_natCast, Int.toNat_natCast, he, show cursor_Over.f e = some (e, 0, 0) from rfl, Option.bind_some]
  dsimp only
  rw [t1, Option.bind_some]; dsimp only
  rw [t2, Option.bind_some]; dsimp only
  rw [t3, Option.bind_some]; dsimp only
  rw [t4, Option.bind_some]; dsimp only
  rw [if_pos (by rw [strN_list]), if_pos (by rfl), if_pos (by rfl), u1, if_neg b4, w2]
def wideR (n z o : Nat) : List UInt8 := [80, 75, 6, 6] ++ (ofN 8 44 ++ ((ofN 2 45 ++ ofN 2 45) ++ (ofN 4 0 ++ (ofN 4 0 ++ (ofN 8 n ++ (ofN 8 n ++ (ofN 8 z ++ (ofN 8 o ++ []))))))))
set_option maxHeartbeats 8000000 in
theorem wide_eq (s : ByteArray) (Y Z : List UInt8) (n z o : Nat) (h : s.data.toList = Y ++ (wideR n z o ++ Z)) (hn : n < 18446744073709551616) (hz : z < 18446744073709551616) (ho : o < 18446744073709551616) (hs : s.size ≤ 1000000000) (k : Nat) (hk : 8 < k) :
    tail_wide.f (k + 1) s (Y.length : Int) ((Y.length + 56 : Nat) : Int) = some ((Y.length : Int), 0, 0, (n : Int), (n : Int), (z : Int), (o : Int), (⟨#[]⟩ : ByteArray), true) := by
  have hL : (wideR n z o).length = 56 := by simp [wideR, ofN_length]
  have hsz : s.size = Y.length + (56 + Z.length) := by rw [← toList_length s, h, List.length_append, List.length_append, hL]
  have e0 : leN (ofN 4 0) = 0 := leOf4 _ (by omega)
  have e44 : leN (ofN 8 44) = 44 := leOf8 _ (by omega)
  have en : leN (ofN 8 n) = n := leOf8 _ (by omega)
  have ez : leN (ofN 8 z) = z := leOf8 _ (by omega)
  have eo : leN (ofN 8 o) = o := leOf8 _ (by omega)
  have hD : (s.extract Y.length (Y.length + 56)).data.toList = wideR n z o := ext_list_of s _ _ Y (wideR n z o) Z h rfl (by rw [hL])
  obtain ⟨e, he⟩ : ∃ e, s.extract Y.length (Y.length + 56) = e := ⟨_, rfl⟩
  rw [he] at hD
  have hes : e.size ≤ 140737488351232 := by rw [← toList_length e, hD, hL]; omega
  have b1 : (0 : Int) ≤ (Y.length : Int) := by omega
  have b2 : (Y.length : Int) ≤ ((Y.length + 56 : Nat) : Int) := by omega
  have b3 : ((Y.length + 56 : Nat) : Int) ≤ (s.size : Int) := by omega
  have u1 : IntKind.u64.wrap (Y.length : Int) = Y.length := u64_id (by omega) (by omega)
  have w1 : IntKind.u64.wrap (wrap64 ((wrap64 (((Y.length + 56 : Nat) : Int) - (Y.length : Int))) - 12)) = 44 := by
    rw [wrap_id (x := ((Y.length + 56 : Nat) : Int) - (Y.length : Int)) (by omega) (by omega), wrap_id (by omega) (by omega), u64_id (by omega) (by omega)]; omega
  have u5 : IntKind.u64.wrap ((0 : Nat) : Int) = 0 := by decide
  have A0 := At.start e hes
  rw [hD] at A0
  unfold wideR at A0
  have t1 := take_at (n := 4) A0 rfl
  have A1 := A0.on
  have t2 := eight_at A1 (ofN_length 8 44) (k + 1) (by omega)
  have A2 := A1.on
  have t3 := take_at (n := 4) A2 (by rw [List.length_append, ofN_length]; rfl)
  have A3 := A2.on
  have t4 := four_at A3 (ofN_length 4 0) k hk
  have A4 := A3.on
  have t5 := four_at A4 (ofN_length 4 0) k hk
  have A5 := A4.on
  have t6 := eight_at A5 (ofN_length 8 n) k hk
  have A6 := A5.on
  have t7 := eight_at A6 (ofN_length 8 n) k hk
  have A7 := A6.on
  have t8 := eight_at A7 (ofN_length 8 z) k hk
  have A8 := A7.on
  have t9 := eight_at A8 (ofN_length 8 o) k hk
  rw [e44] at t2
  rw [e0] at t4 t5
  rw [en] at t6 t7
  rw [ez] at t8
  rw [eo] at t9
  unfold tail_wide.f
  rw [if_pos b1, if_pos b2, if_pos b3, Int.toNat_natCast, Int.toNat_natCast, he, show cursor_Over.f e = some (e, 0, 0) from rfl, Option.bind_some]
  dsimp only
  rw [t1, Option.bind_some]; dsimp only
  rw [t2, Option.bind_some]; dsimp only
  rw [if_pos (by rw [strN_list]), if_neg (by decide), w1, show ((((44 : Nat) : Int)) != 44) = false from by decide]
  rw [tail_wide.j0, if_neg (by decide), t3, Option.bind_some]; dsimp only
  rw [t4, Option.bind_some]; dsimp only
  rw [t5, Option.bind_some]; dsimp only
  rw [t6, Option.bind_some]; dsimp only
  rw [t7, Option.bind_some]; dsimp only
  rw [t8, Option.bind_some]; dsimp only
  rw [t9, Option.bind_some]; dsimp only
  unfold cursor_Cursor_Err.f
  rw [Option.bind_some]; dsimp only
  rw [if_pos rfl, u5, if_pos rfl, if_pos rfl, u1, beq_self_eq_true]
end Go.Proofs.Ytdooampgkiodjaa.D18
namespace Go.Proofs.Ytdooampgkiodjaa.D18
set_option linter.unusedVariables false
open Go Go.RowKit Go.Proofs.Ytdooampgkiodjaa.P Go.Proofs.Ytdooampgkiodjaa.B Go.Proofs.Ytdooampgkiodjaa.Num Go.Proofs.YtdooampgkiodjaaW.PrintWords Go.Proofs.YtdooampgkiodjaaW.PrintLast Go.Proofs.YtdooampgkiodjaaW.PrintMore
def fld (l : List UInt8) (a w : Nat) : Nat := leN ((l.drop a).take w)
def isE (l : List UInt8) (a : Nat) : Prop := fld l a 4 = 101010256 ∧ fld l (a + 20) 2 = l.length - a - 22
instance (l : List UInt8) (a : Nat) : Decidable (isE l a) := by unfold isE; exact inferInstance
def lastE (l : List UInt8) : Nat → Option Nat
  | 0 => if isE l 0 then some 0 else none
  | i + 1 => if isE l (i + 1) then some (i + 1) else lastE l i
def lastOf (l : List UInt8) : Option Nat := if l.length < 22 then none else lastE l (l.length - 22)
abbrev Ans := Int × Int × Int × Int × ByteArray × Bool × Int
def noE (e : Int) : Ans := (0, 0, 0, 0, (⟨#[]⟩ : ByteArray), false, e)
def wideE (l : List UInt8) (c : ByteArray) (a n5 n6 n7 x : Nat) : Ans :=
  if a - 20 - x < 56 then noE 31
  else if ¬ (fld l x 4 = 101075792 ∧ fld l (x + 4) 8 = a - 20 - x - 12 ∧ fld l (x + 16) 4 = 0 ∧ fld l (x + 20) 4 = 0 ∧ fld l (x + 24) 8 = fld l (x + 32) 8) then noE 31
  else if ¬ ((n5 = 65535 ∨ n5 = fld l (x + 32) 8) ∧ (n6 = 4294967295 ∨ n6 = fld l (x + 40) 8) ∧ (n7 = 4294967295 ∨ n7 = fld l (x + 48) 8)) then noE 31
  else ((x : Int), (fld l (x + 32) 8 : Int), (fld l (x + 40) 8 : Int), (fld l (x + 48) 8 : Int), c, true, 0)
def findE (s : ByteArray) (a : Nat) : Ans :=
  let l := s.data.toList
  if ¬ (fld l (a + 4) 2 = 0 ∧ fld l (a + 6) 2 = 0 ∧ fld l (a + 8) 2 = fld l (a + 10) 2) then noE 30
  else if fld l (a + 10) 2 ≠ 65535 ∧ fld l (a + 12) 4 ≠ 4294967295 ∧ fld l (a + 16) 4 ≠ 4294967295 then ((a : Int), (fld l (a + 10) 2 : Int), (fld l (a + 12) 4 : Int), (fld l (a + 16) 4 : Int), s.extract (a + 22) s.size, false, 0)
  else if a < 20 then noE 31
  else if ¬ (fld l (a - 20) 4 = 117853008 ∧ fld l (a - 16) 4 = 0 ∧ fld l (a - 4) 4 = 1 ∧ fld l (a - 12) 8 ≤ a - 20) then noE 31
  else wideE l (s.extract (a + 22) s.size) a (fld l (a + 10) 2) (fld l (a + 12) 4) (fld l (a + 16) 4) (fld l (a - 12) 8)
def spec18 (s : ByteArray) : Ans := match lastOf s.data.toList with | none => noE 30 | some a => findE s a
end Go.Proofs.Ytdooampgkiodjaa.D18
namespace Go.Proofs.Ytdooampgkiodjaa.D18
set_option linter.unusedVariables false
set_option linter.unusedSimpArgs false
open Go Go.RowKit Go.Proofs.Ytdooampgkiodjaa.P Go.Proofs.Ytdooampgkiodjaa.B Go.Proofs.Ytdooampgkiodjaa.Num Go.Proofs.Ytdooampgkiodjaa.Cur Go.Proofs.YtdooampgkiodjaaW.PrintWords Go.Proofs.YtdooampgkiodjaaW.PrintLast Go.Proofs.YtdooampgkiodjaaW.PrintMore
theorem leN_inj : ∀ (a b : List UInt8), a.length = b.length → leN a = leN b → a = b
  | [], [], _, _ => rfl
  | [], _ :: _, h, _ => by simp at h
  | _ :: _, [], h, _ => by simp at h
  | x :: a, y :: b, h, e => by
    have hx := x.toNat_lt
    have hy := y.toNat_lt
    rw [leN, leN] at e
    rw [leN_inj a b (by simpa using h) (by omega), UInt8.toNat_inj.1 (show x.toNat = y.toNat by omega)]
theorem leN_bound : ∀ (a : List UInt8), leN a < 256 ^ a.length
  | [] => by simp [leN]
  | x :: a => by
    have hx := x.toNat_lt
    have := leN_bound a
    rw [leN, List.length_cons, Nat.pow_succ]
    omega
theorem fld_lt (l : List UInt8) (a w : Nat) : fld l a w < 256 ^ w := by
  refine Nat.lt_of_lt_of_le (leN_bound _) (Nat.pow_le_pow_right (by omega) ?_)
  rw [List.length_take]; omega
theorem fld2 (l : List UInt8) (a : Nat) : fld l a 2 < 65536 := fld_lt l a 2
theorem fld4 (l : List UInt8) (a : Nat) : fld l a 4 < 4294967296 := fld_lt l a 4
theorem fld8 (l : List UInt8) (a : Nat) : fld l a 8 < 18446744073709551616 := fld_lt l a 8
theorem mark_iff (l : List UInt8) (a m : Nat) (M : List UInt8) (h : a + 4 ≤ l.length) (hM : M.length = 4) (hm : leN M = m) : ((l.drop a).take 4 = M) ↔ fld l a 4 = m := by
  unfold fld
  constructor
  · intro e; rw [e, hm]
  · intro e
    exact leN_inj _ _ (by rw [List.length_take, List.length_drop, hM]; omega) (by rw [e, hm])
def nums : List Nat → List UInt8 → List Int
  | [], _ => []
  | w :: ws, R => ((leN (R.take w) : Nat) : Int) :: nums ws (R.drop w)
def intsN (ws : List Nat) : List Int := ws.map fun w : Nat => (w : Int)
theorem row_loop : ∀ (suf pre : List Nat) (e : ByteArray) (acc : List Int) (k : Nat), (∀ w ∈ suf, w ≤ 8) → suf.sum ≤ e.size → e.size ≤ 1000000 → acc.length ≤ pre.length → pre.length + suf.length ≤ 100 → suf.length + 20 < k →
    portmanteauref17_Row.l0 k e acc (intsN (pre ++ suf)) ((pre ++ suf).length : Int) (pre.length : Int) = some (acc ++ nums suf e.data.toList)
  | [], pre, e, acc, k, h8, hs, he, ha, hl, hk => by
    obtain ⟨k, rfl⟩ : ∃ m, k = m + 1 := ⟨k - 1, by omega⟩
    rw [portmanteauref17_Row.l0, if_neg (by simp), nums, List.append_nil]
  | w :: suf, pre, e, acc, k, h8, hs, he, ha, hl, hk => by
    obtain ⟨k, rfl⟩ : ∃ m, k = m + 1 := ⟨k - 1, by omega⟩
    have hw8 : w ≤ 8 := h8 w (by simp)
    rw [List.sum_cons] at hs
    rw [List.length_cons] at hl hk
    have hlen : (intsN (pre ++ w :: suf)).length = pre.length + suf.length + 1 := by simp [intsN]; omega
    have hrd : rd (intsN (pre ++ w :: suf)) (pre.length : Int) = (w : Int) := by
      unfold rd intsN
      rw [Int.toNat_natCast, List.getD_eq_getElem?_getD]
      simp
    have hnum := ref_number_eq (e.extract 0 w) (by simp; omega) k (by omega)
    have hd : (e.extract 0 w).data.toList = e.data.toList.take w := by rw [extract_list]; simp
    rw [hd] at hnum
    have hd2 : (e.extract w e.size).data.toList = e.data.toList.drop w := by rw [extract_list, List.take_of_length_le (by rw [toList_length]; omega)]
    have hsz : (e.extract w e.size).size = e.size - w := by simp
    have ih := row_loop suf (pre ++ [w]) (e.extract w e.size) (acc ++ [((leN (e.data.toList.take w) : Nat) : Int)]) k (fun x hx => h8 x (by simp [hx])) (by rw [hsz]; omega) (by rw [hsz]; omega) (by simp; omega) (by simp; omega) (by omega)
    rw [List.append_assoc, List.singleton_append] at ih
    rw [portmanteauref17_Row.l0, if_pos (by simp; omega), if_pos (by omega), if_pos (by rw [hlen]; omega), hrd, if_pos (by omega), if_pos (by omega), Int.toNat_natCast, hnum, Option.bind_some, if_pos (by omega)]
    rw [wrap_id (by omega) (by omega), show (pre.length : Int) + 1 = ((pre ++ [w]).length : Int) by simp, ih, hd2, nums, List.append_assoc, List.singleton_append]
theorem row_eq (ws : List Nat) (e : ByteArray) (h8 : ∀ w ∈ ws, w ≤ 8) (hs : ws.sum ≤ e.size) (he : e.size ≤ 1000000) (hl : ws.length ≤ 100) (k : Nat) (hk : ws.length + 20 < k) :
    portmanteauref17_Row.f k e (intsN ws) = some (nums ws e.data.toList) := by
  have := row_loop ws [] e [] k h8 hs he (by simp) (by simpa using hl) hk
  unfold portmanteauref17_Row.f
  rw [show ((intsN ws).length : Int) = (([] ++ ws : List Nat).length : Int) by simp [intsN]]
  exact this
theorem drop_list (s : ByteArray) (a : Nat) : (s.extract a s.size).data.toList = s.data.toList.drop a := by
  rw [extract_list, List.take_of_length_le (by rw [toList_length]; omega)]
theorem ends_row (s : ByteArray) (a : Nat) (ha : a + 22 ≤ s.size) (hs : s.size ≤ 1000000) (k : Nat) (hk : 40 < k) :
    portmanteauref17_Row.f k (s.extract a s.size) [4, 2, 2, 2, 2, 4, 4, 2] = some [(fld s.data.toList a 4 : Int), (fld s.data.toList (a + 4) 2 : Int), (fld s.data.toList (a + 6) 2 : Int), (fld s.data.toList (a + 8) 2 : Int), (fld s.data.toList (a + 10) 2 : Int), (fld s.data.toList (a + 12) 4 : Int), (fld s.data.toList (a + 16) 4 : Int), (fld s.data.toList (a + 20) 2 : Int)] := by
  have := row_eq [4, 2, 2, 2, 2, 4, 4, 2] (s.extract a s.size) (by decide) (by simp; omega) (by simp; omega) (by decide) k (by simp; omega)
  rw [show intsN [4, 2, 2, 2, 2, 4, 4, 2] = [4, 2, 2, 2, 2, 4, 4, 2] from rfl] at this
  rw [this, drop_list]
  simp [nums, fld, List.drop_drop]
theorem locators_row (s : ByteArray) (a : Nat) (ha : a + 20 ≤ s.size) (hs : s.size ≤ 1000000) (k : Nat) (hk : 40 < k) :
    portmanteauref17_Row.f k (s.extract a s.size) [4, 4, 8, 4] = some [(fld s.data.toList a 4 : Int), (fld s.data.toList (a + 4) 4 : Int), (fld s.data.toList (a + 8) 8 : Int), (fld s.data.toList (a + 16) 4 : Int)] := by
  have := row_eq [4, 4, 8, 4] (s.extract a s.size) (by decide) (by simp; omega) (by simp; omega) (by decide) k (by simp; omega)
  rw [show intsN [4, 4, 8, 4] = [4, 4, 8, 4] from rfl] at this
  rw [this, drop_list]
  simp [nums, fld, List.drop_drop]
theorem wides_row (s : ByteArray) (a : Nat) (ha : a + 56 ≤ s.size) (hs : s.size ≤ 1000000) (k : Nat) (hk : 40 < k) :
    portmanteauref17_Row.f k (s.extract a s.size) [4, 8, 2, 2, 4, 4, 8, 8, 8, 8] = some [(fld s.data.toList a 4 : Int), (fld s.data.toList (a + 4) 8 : Int), (fld s.data.toList (a + 12) 2 : Int), (fld s.data.toList (a + 14) 2 : Int), (fld s.data.toList (a + 16) 4 : Int), (fld s.data.toList (a + 20) 4 : Int), (fld s.data.toList (a + 24) 8 : Int), (fld s.data.toList (a + 32) 8 : Int), (fld s.data.toList (a + 40) 8 : Int), (fld s.data.toList (a + 48) 8 : Int)] := by
  have := row_eq [4, 8, 2, 2, 4, 4, 8, 8, 8, 8] (s.extract a s.size) (by decide) (by simp; omega) (by simp; omega) (by decide) k (by simp; omega)
  rw [show intsN [4, 8, 2, 2, 4, 4, 8, 8, 8, 8] = [4, 8, 2, 2, 4, 4, 8, 8, 8, 8] from rfl] at this
  rw [this, drop_list]
  simp [nums, fld, List.drop_drop]
theorem len8 (a b c d e f g h : Int) : (([a, b, c, d, e, f, g, h] : List Int).length : Int) = 8 := rfl
theorem place_step (s : ByteArray) (i : Nat) (hi : i + 22 ≤ s.size) (hs : s.size ≤ 5000) (k : Nat) (hk : 40 < k) :
    portmanteauref18_place.l0 (k + 1) s (i : Int) = if isE s.data.toList i then some (i : Int) else portmanteauref18_place.l0 k s (wrap64 ((i : Int) - 1)) := by
  have hr := ends_row s i hi (by omega) k hk
  have hb0 := fld2 s.data.toList (i + 20)
  have hl := toList_length s
  conv => lhs; unfold portmanteauref18_place.l0
  rw [if_pos (by omega), if_neg (by rw [wrap_id (x := (i : Int) + 22) (by omega) (by omega), wrap_id (by omega) (by omega)]; omega), if_pos (by omega), if_pos (by omega), show portmanteauref18_ends.f = some [4, 2, 2, 2, 2, 4, 4, 2] from rfl, Option.bind_some, Int.toNat_natCast, hr, Option.bind_some]
  rw [len8, if_pos (by decide : (0 : Int) < 8), show ∀ (a b c d e f g h : Int), rd [a, b, c, d, e, f, g, h] 0 = a from fun _ _ _ _ _ _ _ _ => rfl, show ∀ (a b c d e f g h : Int), rd [a, b, c, d, e, f, g, h] 7 = h from fun _ _ _ _ _ _ _ _ => rfl]
  by_cases h1 : fld s.data.toList i 4 = 101010256
  · rw [if_pos (by omega), if_pos (by decide : (7 : Int) < 8), wrap_id (x := (s.size : Int) - (i : Int)) (by omega) (by omega), wrap_id (x := (s.size : Int) - (i : Int) - 22) (by omega) (by omega), wrap_id (x := ((fld s.data.toList (i + 20) 2 : Nat) : Int)) (by omega) (by omega)]
    by_cases h2 : fld s.data.toList (i + 20) 2 = s.data.toList.length - i - 22
    · rw [if_pos (by omega), if_pos (show isE s.data.toList i from ⟨h1, h2⟩)]
    · rw [if_neg (by omega), if_neg (show ¬ isE s.data.toList i from fun h => h2 h.2)]
  · rw [if_neg (by omega), if_neg (show ¬ isE s.data.toList i from fun h => h1 h.1)]
def pl : Option Nat → Int
  | none => -1
  | some a => (a : Int)
theorem place_loop (s : ByteArray) (hs : s.size ≤ 5000) : ∀ (i k : Nat), i + 22 ≤ s.size → i + 60 < k → portmanteauref18_place.l0 k s (i : Int) = some (pl (lastE s.data.toList i))
  | 0, k, hi, hk => by
    obtain ⟨k, rfl⟩ : ∃ m, k = m + 1 := ⟨k - 1, by omega⟩
    rw [place_step s 0 hi hs k (by omega), lastE]
    split
    · rfl
    · obtain ⟨k, rfl⟩ : ∃ m, k = m + 1 := ⟨k - 1, by omega⟩
      rw [show ((0 : Nat) : Int) - 1 = -1 by decide, wrap_id (by decide) (by decide)]
      unfold portmanteauref18_place.l0
      rw [if_neg (by omega)]; rfl
  | i + 1, k, hi, hk => by
    obtain ⟨k, rfl⟩ : ∃ m, k = m + 1 := ⟨k - 1, by omega⟩
    rw [place_step s (i + 1) hi hs k (by omega), lastE]
    split
    · rfl
    · rw [wrap_id (by omega) (by omega), show ((i + 1 : Nat) : Int) - 1 = (i : Int) by omega]
      exact place_loop s hs i k (by omega) (by omega)
theorem place_eq (s : ByteArray) (hs : s.size ≤ 5000) (k : Nat) (hk : 5100 < k) : portmanteauref18_place.f k s = some (pl (lastOf s.data.toList)) := by
  unfold portmanteauref18_place.f lastOf
  rw [toList_length]
  by_cases h : s.size < 22
  · obtain ⟨k, rfl⟩ : ∃ m, k = m + 1 := ⟨k - 1, by omega⟩
    rw [if_pos h, wrap_id (by omega) (by omega), portmanteauref18_place.l0, if_neg (by omega)]; rfl
  · rw [if_neg h, wrap_id (by omega) (by omega), show (s.size : Int) - 22 = ((s.size - 22 : Nat) : Int) by omega]
    exact place_loop s hs _ k (by omega) (by omega)
theorem lastE_le (l : List UInt8) : ∀ (i a : Nat), lastE l i = some a → a ≤ i ∧ isE l a
  | 0, a, h => by rw [lastE] at h; split at h <;> simp_all
  | i + 1, a, h => by
    rw [lastE] at h
    split at h
    · rename_i hh
      obtain rfl := Option.some.inj h
      exact ⟨Nat.le_refl _, hh⟩
    · have := lastE_le l i a h; exact ⟨by omega, this.2⟩
theorem lastOf_le (l : List UInt8) (a : Nat) (h : lastOf l = some a) : a + 22 ≤ l.length ∧ isE l a := by
  unfold lastOf at h
  split at h
  · cases h
  · have := lastE_le l _ a h; exact ⟨by omega, this.2⟩
theorem take_fld {e : ByteArray} {a : Int} {l : List UInt8} {p n : Nat} (A : At e a (l.drop p)) (h : p + n ≤ l.length) : cursor_Cursor_Take.f e a 0 (n : Int) = some (strN ((l.drop p).take n), e, a + n, 0) ∧ At e (a + n) (l.drop (p + n)) := by
  have hl : ((l.drop p).take n).length = n := by rw [List.length_take, List.length_drop]; omega
  have A' : At e a ((l.drop p).take n ++ l.drop (p + n)) := by rw [← List.drop_drop, List.take_append_drop]; exact A
  have t := take_at (n := (n : Int)) A' (by rw [hl])
  have A2 := A'.on
  rw [hl] at t A2
  exact ⟨t, A2⟩
theorem two_fld {e : ByteArray} {a : Int} {l : List UInt8} {p : Nat} (A : At e a (l.drop p)) (h : p + 2 ≤ l.length) (k : Nat) (hk : 8 < k) : cursor_Cursor_Two.f k e a 0 = some ((fld l p 2 : Int), e, a + 2, 0) ∧ At e (a + 2) (l.drop (p + 2)) := by
  have hl : ((l.drop p).take 2).length = 2 := by rw [List.length_take, List.length_drop]; omega
  have A' : At e a ((l.drop p).take 2 ++ l.drop (p + 2)) := by rw [← List.drop_drop, List.take_append_drop]; exact A
  have t := two_at A' hl k hk
  have A2 := A'.on
  rw [hl] at t A2
  exact ⟨t, A2⟩
theorem four_fld {e : ByteArray} {a : Int} {l : List UInt8} {p : Nat} (A : At e a (l.drop p)) (h : p + 4 ≤ l.length) (k : Nat) (hk : 8 < k) : cursor_Cursor_Four.f k e a 0 = some ((fld l p 4 : Int), e, a + 4, 0) ∧ At e (a + 4) (l.drop (p + 4)) := by
  have hl : ((l.drop p).take 4).length = 4 := by rw [List.length_take, List.length_drop]; omega
  have A' : At e a ((l.drop p).take 4 ++ l.drop (p + 4)) := by rw [← List.drop_drop, List.take_append_drop]; exact A
  have t := four_at A' hl k hk
  have A2 := A'.on
  rw [hl] at t A2
  exact ⟨t, A2⟩
theorem eight_fld {e : ByteArray} {a : Int} {l : List UInt8} {p : Nat} (A : At e a (l.drop p)) (h : p + 8 ≤ l.length) (k : Nat) (hk : 8 < k) : cursor_Cursor_Eight.f k e a 0 = some ((fld l p 8 : Int), e, a + 8, 0) ∧ At e (a + 8) (l.drop (p + 8)) := by
  have hl : ((l.drop p).take 8).length = 8 := by rw [List.length_take, List.length_drop]; omega
  have A' : At e a ((l.drop p).take 8 ++ l.drop (p + 8)) := by rw [← List.drop_drop, List.take_append_drop]; exact A
  have t := eight_at A' hl k hk
  have A2 := A'.on
  rw [hl] at t A2
  exact ⟨t, A2⟩
theorem strN_drop (s : ByteArray) (a : Nat) : strN (s.data.toList.drop a) = s.extract a s.size := by
  apply ByteArray.ext
  rw [← drop_list]; rfl
set_option maxHeartbeats 8000000 in
theorem last_step (s : ByteArray) (i : Nat) (hi : i + 22 ≤ s.size) (hs : s.size ≤ 5000) (k : Nat) (hk : 8 < k) :
    tail_last.l0 (k + 1) s (i : Int) = if isE s.data.toList i then some ((i : Int), (fld s.data.toList (i + 4) 2 : Int), (fld s.data.toList (i + 6) 2 : Int), (fld s.data.toList (i + 8) 2 : Int), (fld s.data.toList (i + 10) 2 : Int), (fld s.data.toList (i + 12) 4 : Int), (fld s.data.toList (i + 16) 4 : Int), s.extract (i + 22) s.size, true) else tail_last.l0 k s (wrap64 ((i : Int) - 1)) := by
  have hl := toList_length s
  have b1 := low_bound s i (s.size - i) (by omega) (by omega) (by omega)
  have b2 : (0 : Int) ≤ (i : Int) := by omega
  have b3 : (i : Int) ≤ (s.size : Int) := by omega
  obtain ⟨l, hll⟩ : ∃ l, s.data.toList = l := ⟨_, rfl⟩
  have hD := drop_list s i
  have hX := strN_drop s (i + 22)
  rw [hll] at hl hD hX ⊢
  have hes : (s.extract i s.size).size ≤ 140737488351232 := by simp; omega
  obtain ⟨e, he⟩ : ∃ e, s.extract i s.size = e := ⟨_, rfl⟩
  rw [he] at hD hes
  have A0 := At.start e hes
  rw [hD] at A0
  obtain ⟨t1, A1⟩ := take_fld (n := 4) A0 (by omega)
  obtain ⟨t2, A2⟩ := two_fld A1 (by omega) k hk
  obtain ⟨t3, A3⟩ := two_fld A2 (by omega) k hk
  obtain ⟨t4, A4⟩ := two_fld A3 (by omega) k hk
  obtain ⟨t5, A5⟩ := two_fld A4 (by omega) k hk
  obtain ⟨t6, A6⟩ := four_fld A5 (by omega) k hk
  obtain ⟨t7, A7⟩ := four_fld A6 (by omega) k hk
  obtain ⟨t8, A8⟩ := two_fld A7 (by omega) k hk
  have t9 := left_at A8
  have f2 := fld2 l (i + 4)
  have f3 := fld2 l (i + 6)
  have f4 := fld2 l (i + 8)
  have f5 := fld2 l (i + 10)
  have f6 := fld4 l (i + 12)
  have f7 := fld4 l (i + 16)
  have f8 := fld2 l (i + 20)
  have hmk := mark_iff l i 101010256 [80, 75, 5, 6] (by omega) rfl (by decide)
  rw [List.length_drop] at t9
  conv => lhs; unfold tail_last.l0
  rw [if_pos b1, if_pos b2, if_pos b3, Int.toNat_natCast, he, show cursor_Over.f e = some (e, 0, 0) from rfl, Option.bind_some]
  dsimp only
  rw [show cursor_Cursor_Take.f e 0 0 4 = _ from t1, Option.bind_some]; dsimp only
  rw [strN_list]
  by_cases h1 : fld l i 4 = 101010256
  · rw [if_pos (hmk.2 h1), t2, Option.bind_some]; dsimp only
    rw [t3, Option.bind_some]; dsimp only
    rw [t4, Option.bind_some]; dsimp only
    rw [t5, Option.bind_some]; dsimp only
    rw [t6, Option.bind_some]; dsimp only
    rw [t7, Option.bind_some]; dsimp only
    rw [t8, Option.bind_some]; dsimp only
    unfold cursor_Cursor_Left.f
    rw [Option.bind_some]; dsimp only
    rw [t9, wrap_id (x := ((fld l (i + 20) 2 : Nat) : Int)) (by omega) (by omega)]
    by_cases h2 : fld l (i + 20) 2 = l.length - i - 22
    · have t10 := (take_fld (n := fld l (i + 20) 2) A8 (by omega)).1
      rw [List.take_of_length_le (by rw [List.length_drop]; omega), hX] at t10
      rw [if_pos (by omega), if_pos (show isE l i from ⟨h1, h2⟩), t10, Option.bind_some]; dsimp only
      rw [u64_id (x := (i : Int)) (by omega) (by omega), u64_id (x := ((fld l (i + 4) 2 : Nat) : Int)) (by omega) (by omega), u64_id (x := ((fld l (i + 6) 2 : Nat) : Int)) (by omega) (by omega), u64_id (x := ((fld l (i + 8) 2 : Nat) : Int)) (by omega) (by omega), u64_id (x := ((fld l (i + 10) 2 : Nat) : Int)) (by omega) (by omega), u64_id (x := ((fld l (i + 12) 4 : Nat) : Int)) (by omega) (by omega), u64_id (x := ((fld l (i + 16) 4 : Nat) : Int)) (by omega) (by omega)]
    · rw [if_neg (by omega), if_neg (show ¬ isE l i from fun h => h2 h.2)]
  · rw [if_neg (fun h => h1 (hmk.1 h)), if_neg (show ¬ isE l i from fun h => h1 h.1)]
def la (s : ByteArray) : Option Nat → Int × Int × Int × Int × Int × Int × Int × ByteArray × Bool
  | none => (0, 0, 0, 0, 0, 0, 0, (⟨#[]⟩ : ByteArray), false)
  | some i => ((i : Int), (fld s.data.toList (i + 4) 2 : Int), (fld s.data.toList (i + 6) 2 : Int), (fld s.data.toList (i + 8) 2 : Int), (fld s.data.toList (i + 10) 2 : Int), (fld s.data.toList (i + 12) 4 : Int), (fld s.data.toList (i + 16) 4 : Int), s.extract (i + 22) s.size, true)
theorem last_none (s : ByteArray) (k : Nat) (x : Int) (hx : x < 0) : tail_last.l0 (k + 1) s x = some (la s none) := by
  rw [tail_last.l0, if_neg (by unfold mx; split <;> omega)]; rfl
theorem last_loop (s : ByteArray) (hs : s.size ≤ 5000) : ∀ (i k : Nat), i + 22 ≤ s.size → i + 60 < k → tail_last.l0 k s (i : Int) = some (la s (lastE s.data.toList i))
  | 0, k, hi, hk => by
    obtain ⟨k, rfl⟩ : ∃ m, k = m + 1 := ⟨k - 1, by omega⟩
    rw [last_step s 0 hi hs k (by omega), lastE]
    split
    · rfl
    · obtain ⟨k, rfl⟩ : ∃ m, k = m + 1 := ⟨k - 1, by omega⟩
      rw [show ((0 : Nat) : Int) - 1 = -1 by decide, wrap_id (by decide) (by decide)]
      exact last_none s k _ (by decide)
  | i + 1, k, hi, hk => by
    obtain ⟨k, rfl⟩ : ∃ m, k = m + 1 := ⟨k - 1, by omega⟩
    rw [last_step s (i + 1) hi hs k (by omega), lastE]
    split
    · rfl
    · rw [wrap_id (by omega) (by omega), show ((i + 1 : Nat) : Int) - 1 = (i : Int) by omega]
      exact last_loop s hs i k (by omega) (by omega)
theorem last_all (s : ByteArray) (hs : s.size ≤ 5000) (k : Nat) (hk : 5100 < k) : tail_last.f k s = some (la s (lastOf s.data.toList)) := by
  unfold tail_last.f lastOf
  rw [toList_length]
  by_cases h : s.size < 22
  · obtain ⟨k, rfl⟩ : ∃ m, k = m + 1 := ⟨k - 1, by omega⟩
    rw [if_pos h, wrap_id (by omega) (by omega)]
    exact last_none s k _ (by omega)
  · rw [if_neg h, wrap_id (by omega) (by omega), show (s.size : Int) - 22 = ((s.size - 22 : Nat) : Int) by omega]
    exact last_loop s hs _ k (by omega) (by omega)
set_option maxHeartbeats 8000000 in
theorem located_all (s : ByteArray) (a : Nat) (ha : a ≤ s.size) (h20 : 20 ≤ a) (hs : s.size ≤ 5000) (k : Nat) (hk : 8 < k) :
    tail_located.f k s (a : Int) = some (if fld s.data.toList (a - 20) 4 = 117853008 ∧ fld s.data.toList (a - 16) 4 = 0 ∧ fld s.data.toList (a - 4) 4 = 1 ∧ fld s.data.toList (a - 12) 8 ≤ a - 20 then ((fld s.data.toList (a - 12) 8 : Int), true) else (0, false)) := by
  obtain ⟨b, rfl⟩ : ∃ b, a = b + 20 := ⟨a - 20, by omega⟩
  rw [show b + 20 - 20 = b by omega, show b + 20 - 16 = b + 4 by omega, show b + 20 - 4 = b + 16 by omega, show b + 20 - 12 = b + 8 by omega]
  have hl := toList_length s
  obtain ⟨l, hll⟩ : ∃ l, s.data.toList = l := ⟨_, rfl⟩
  have hD : (s.extract b (b + 20)).data.toList = (l.take (b + 20)).drop b := by rw [extract_list, hll, List.drop_take, show b + 20 - b = 20 by omega]
  rw [hll] at hl ⊢
  have hl' : (l.take (b + 20)).length = b + 20 := by rw [List.length_take]; omega
  have hf : ∀ p w, p + w ≤ b + 20 → fld (l.take (b + 20)) p w = fld l p w := by
    intro p w h
    unfold fld
    rw [List.drop_take, List.take_take, Nat.min_eq_left (by omega)]
  obtain ⟨e, he⟩ : ∃ e, s.extract b (b + 20) = e := ⟨_, rfl⟩
  have hes : e.size ≤ 140737488351232 := by rw [← he]; simp; omega
  rw [he] at hD
  have b0 : ¬ ((b + 20 : Nat) : Int) < 20 := by omega
  have b1 : (0 : Int) ≤ (b : Int) := by omega
  have b2 : (b : Int) ≤ ((b + 20 : Nat) : Int) := by omega
  have b3 : ((b + 20 : Nat) : Int) ≤ (s.size : Int) := by omega
  have A0 := At.start e hes
  rw [hD] at A0
  obtain ⟨t1, A1⟩ := take_fld (n := 4) A0 (by omega)
  obtain ⟨t2, A2⟩ := four_fld A1 (by omega) k hk
  obtain ⟨t3, A3⟩ := eight_fld A2 (by omega) k hk
  obtain ⟨t4, A4⟩ := four_fld A3 (by omega) k hk
  have hmk := mark_iff (l.take (b + 20)) b 117853008 [80, 75, 6, 7] (by omega) rfl (by decide)
  rw [hf b 4 (by omega)] at hmk
  rw [hf _ 4 (by omega)] at t2 t4
  rw [hf _ 8 (by omega)] at t3
  rw [show b + 4 + 4 = b + 8 from rfl, show b + 8 + 8 = b + 16 from rfl] at *
  unfold tail_located.f
  rw [if_neg b0, wrap_id (x := ((b + 20 : Nat) : Int) - 20) (by omega) (by omega), show ((b + 20 : Nat) : Int) - 20 = (b : Int) by omega, if_pos b1, if_pos b2, if_pos b3, Int.toNat_natCast, Int.toNat_natCast, he, show cursor_Over.f e = some (e, 0, 0) from rfl, Option.bind_some]
  dsimp only
  rw [show cursor_Cursor_Take.f e 0 0 4 = _ from t1, Option.bind_some]; dsimp only
  rw [t2, Option.bind_some]; dsimp only
  rw [t3, Option.bind_some]; dsimp only
  rw [t4, Option.bind_some]; dsimp only
  rw [strN_list, u64_id (x := (b : Int)) (by omega) (by omega)]
  by_cases h1 : fld l b 4 = 117853008
  · rw [if_pos (hmk.2 h1)]
    by_cases h2 : fld l (b + 4) 4 = 0
    · rw [if_pos (by omega)]
      by_cases h3 : fld l (b + 16) 4 = 1
      · rw [if_pos (by omega)]
        by_cases h4 : fld l (b + 8) 8 ≤ b
        · rw [if_neg (by omega), if_pos ⟨h1, h2, h3, h4⟩, wrap_id (by omega) (by omega)]
        · rw [if_pos (by omega), if_neg (fun h => h4 h.2.2.2)]
      · rw [if_neg (by omega), if_neg (fun h => h3 h.2.2.1)]
    · rw [if_neg (by omega), if_neg (fun h => h2 h.2.1)]
  · rw [if_neg (fun h => h1 (hmk.1 h)), if_neg (fun h => h1 h.1)]
end Go.Proofs.Ytdooampgkiodjaa.D18
