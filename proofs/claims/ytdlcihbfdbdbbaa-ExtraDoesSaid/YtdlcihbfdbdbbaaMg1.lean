/- Several texts in one (merge.py): Plain facts on bytes, little-endian numbers and 64-bit words: no program in sight.; The lowest so many bytes of a number, as a string: plain Lean.; What the program's reading of a number comes to: plain Lean.; What the cursor's methods come to, over bytes that are told as lists: plain Lean.; A cursor at what is left of its bytes, as a list: plain Lean.; Two: what it takes.; Two at what is left: plain Lean.; strings.Builder: the library's contracts (WriteString, String), laid at this program's own numbers. Printed by wip/lib/genbuild.py.; strings.Builder: the library's contracts with the frame above the builder. Printed by wip/lib/genbuild.py.; strings.Builder's Len, laid at this program's own numbers. Printed by wip/lib/genbuild.py.; extra.place: the first field of an ID (slices.IndexFunc with a closure), in the printer's form: the walk.; Rows of fields that the call owns: append(own, row...), what it leaves.; slices.Clone of fields, in the printer's form: the walk.; slices.Concat of fields, in the printer's form: the walk.; What the program's writing of a number comes to: plain Lean.; Two bytes: plain Lean.; extra.Print: fields' bytes, by a strings.Builder: the walk.; A map of the call's own from keys to plain values, told as a function: read, and stored into.; extra.Twice: the first ID that comes again, by a map, in the printer's form: the walk.; What the data of a law's argument say of the memory: for any type that is made of whole numbers, bools, strings, structs and slic -/
import Derived.Test.YtdlcihbfdbdbbaaWMore
import Derived.Laws.BitsLemmas
import Derived.Test.YtdlcihbfdbdbbaaPx3
import Derived.Test.YtdlcihbfdbdbbaaPx2
import Derived.Test.YtdlcihbfdbdbbaaProg
import Derived.Shelf.Strings.Builder1
import Derived.Shelf.Strings.BuilderK
import Derived.Shelf.Strings.BuilderF
import Derived.Shelf.Abstract
import Derived.Test.YtdlcihbfdbdbbaaPx0
import Derived.Maps.AppendAt
import Derived.Deep.AppendSrc
import Derived.Lib.AppendZerosOnto
import Derived.Lib.AppendZeros
import Derived.Lib.SliceRun
import Derived.Test.YtdlcihbfdbdbbaaPx6
import Derived.Maps.Keyed
import Derived.WideKeyEntry
import Derived.ChangeMaps5
import Derived.ChangeArms
import Derived.DataReads
import Derived.SizedLaws
import Derived.WideShapes
/- Plain facts on bytes, little-endian numbers and 64-bit words: no program in sight. -/
namespace Go.Proofs.Ytdlcihbfdbdbbaa.B
set_option linter.unusedVariables false
set_option linter.unusedSimpArgs false
open Go Go.RowKit Go.Proofs.YtdlcihbfdbdbbaaW.PrintWords Go.Proofs.YtdlcihbfdbdbbaaW.PrintLast Go.Proofs.YtdlcihbfdbdbbaaW.PrintMore

theorem wrap_id {x : Int} (h0 : -9223372036854775808 ≤ x) (h1 : x ≤ 9223372036854775807) : wrap64 x = x := by
  unfold wrap64; omega
theorem u64_mod (x : Int) : IntKind.u64.wrap x = x % 18446744073709551616 := by simp [IntKind.wrap, IntKind.bits, IntKind.signed]
theorem u64_id {x : Int} (h0 : 0 ≤ x) (h1 : x < 18446744073709551616) : IntKind.u64.wrap x = x := by rw [u64_mod]; omega
theorem u16_mod (x : Int) : IntKind.u16.wrap x = x % 65536 := by simp [IntKind.wrap, IntKind.bits, IntKind.signed]
theorem wf_u64 {x : Int} (h : (Lit.int .u64 x).wf = true) : 0 ≤ x ∧ x ≤ 18446744073709551615 := by
  simp [Lit.wf, IntKind.min, IntKind.max, IntKind.signed, IntKind.bits] at h; omega
theorem wf_u32 {x : Int} (h : (Lit.int .u32 x).wf = true) : 0 ≤ x ∧ x ≤ 4294967295 := by
  simp [Lit.wf, IntKind.min, IntKind.max, IntKind.signed, IntKind.bits] at h; omega
theorem wf_u16 {x : Int} (h : (Lit.int .u16 x).wf = true) : 0 ≤ x ∧ x ≤ 65535 := by
  simp [Lit.wf, IntKind.min, IntKind.max, IntKind.signed, IntKind.bits] at h; omega
theorem wf_u8 {x : Int} (h : (Lit.int .u8 x).wf = true) : 0 ≤ x ∧ x ≤ 255 := by
  simp [Lit.wf, IntKind.min, IntKind.max, IntKind.signed, IntKind.bits] at h; omega
theorem wf_i64 {x : Int} (h : (Lit.int .i64 x).wf = true) : -9223372036854775808 ≤ x ∧ x ≤ 9223372036854775807 := by
  simp [Lit.wf, IntKind.min, IntKind.max, IntKind.signed, IntKind.bits] at h; omega

/-- The number that bytes are, the lowest first. -/
def leN : List UInt8 → Nat
  | [] => 0
  | b :: l => b.toNat + 256 * leN l
theorem leN_append (a b : List UInt8) : leN (a ++ b) = leN a + 256 ^ a.length * leN b := by
  induction a with
  | nil => simp [leN]
  | cons x a ih => simp only [List.cons_append, leN, ih, List.length_cons, Nat.pow_succ]; rw [Nat.mul_add, Nat.mul_comm (256 ^ a.length) 256, Nat.mul_assoc, Nat.add_assoc]
theorem leN_lt (l : List UInt8) : leN l < 256 ^ l.length := by
  induction l with
  | nil => simp [leN]
  | cons x l ih => simp only [leN, List.length_cons, Nat.pow_succ]; have := x.toNat_lt; omega
/-- The lowest so many bytes of a number. -/
def ofN : Nat → Nat → List UInt8
  | 0, _ => []
  | c + 1, n => UInt8.ofNat (n % 256) :: ofN c (n / 256)
theorem ofN_length (c n : Nat) : (ofN c n).length = c := by
  induction c generalizing n with
  | zero => rfl
  | succ c ih => simp [ofN, ih]
theorem leN_ofN (c n : Nat) : leN (ofN c n) = n % 256 ^ c := by
  induction c generalizing n with
  | zero => simp [ofN, leN, Nat.mod_one]
  | succ c ih =>
    simp only [ofN, leN, ih]
    rw [Nat.pow_succ, Nat.mul_comm (256 ^ c) 256, Nat.mod_mul]
    have : (UInt8.ofNat (n % 256)).toNat = n % 256 := by simp
    rw [this]
theorem ofN_mod (c n : Nat) : ofN c (n % 256 ^ c) = ofN c n := by
  induction c generalizing n with
  | zero => rfl
  | succ c ih =>
    simp only [ofN]
    have h1 : n % 256 ^ (c + 1) % 256 = n % 256 := Nat.mod_mod_of_dvd _ ⟨256 ^ c, by rw [Nat.pow_succ, Nat.mul_comm]⟩
    have h2 : n % 256 ^ (c + 1) / 256 = n / 256 % 256 ^ c := by
      rw [Nat.pow_succ, Nat.mul_comm (256 ^ c) 256, Nat.mod_mul]
      omega
    rw [h1, h2, ih]
theorem ofN_get (c n i : Nat) (h : i < c) : (ofN c n)[i]? = some (UInt8.ofNat (n / 256 ^ i % 256)) := by
  induction c generalizing n i with
  | zero => omega
  | succ c ih =>
    cases i with
    | zero => simp [ofN]
    | succ i => simp only [ofN, List.getElem?_cons_succ]; rw [ih _ _ (by omega), Nat.pow_succ, Nat.mul_comm (256 ^ i) 256, Nat.div_div_eq_div_mul]
theorem ofN_leN (l : List UInt8) : ofN l.length (leN l) = l := by
  induction l with
  | nil => rfl
  | cons b l ih =>
    simp only [List.length_cons, ofN, leN]
    have := b.toNat_lt
    rw [show (b.toNat + 256 * leN l) % 256 = b.toNat by omega, show (b.toNat + 256 * leN l) / 256 = leN l by omega, ih]
    simp

theorem bt_nat (s : ByteArray) (i : Nat) (h : i < s.data.toList.length) : bt s (i : Int) = ((s.data.toList[i]).toNat : Int) := by
  have h' : i < s.size := by simpa using h
  have := bt_at s (i : Int) (by simpa using h')
  rw [← this]
  simp [ByteArray.getElem_eq_getElem_data]
theorem toList_length (s : ByteArray) : s.data.toList.length = s.size := by simp
theorem toL (s : ByteArray) : s.toList = s.data.toList := ByteArray.toList_eq s

/-- One byte more of a number that is put together with | and <<. -/
theorem or_shl (a b i : Nat) (hi : i < 8) (ha : a < 256 ^ i) (hb : b < 256) : Go.bits .or .u64 (a : Int) (shl .u64 (IntKind.u64.wrap (b : Int)) ((8 * i : Nat) : Int)) = ((a + 256 ^ i * b : Nat) : Int) := by
  have e : (256 : Nat) ^ i = 2 ^ (8 * i) := by rw [Nat.pow_mul]
  have hp : 256 ^ i * 256 ≤ 2 ^ 64 := by
    rw [e, show (256 : Nat) = 2 ^ 8 from rfl, ← Nat.pow_add]
    exact Nat.pow_le_pow_right (by decide) (by omega)
  have hm : 256 ^ i * b < 2 ^ 64 := Nat.lt_of_lt_of_le (Nat.mul_lt_mul_of_pos_left hb (Nat.pow_pos (by decide))) hp
  have hs : shl .u64 (IntKind.u64.wrap (b : Int)) ((8 * i : Nat) : Int) = ((256 ^ i * b : Nat) : Int) := by
    unfold shl
    rw [u64_id (x := (b : Int)) (by omega) (by omega), Int.toNat_natCast, Nat.min_eq_left (by simp [IntKind.bits]; omega)]
    have e2 : (b : Int) * 2 ^ (8 * i) = ((256 ^ i * b : Nat) : Int) := by rw [e]; simp [Int.mul_comm]
    rw [e2, u64_id (by omega) (by omega)]
  rw [hs, (bits_nat .u64 64 (by decide) (fun n h0 h1 => u64_id h0 h1) a (256 ^ i * b) (Nat.lt_of_lt_of_le ha (by omega)) hm).2, e, Nat.or_comm, Nat.add_comm,
    Nat.two_pow_add_eq_or_of_lt (by rw [← e]; exact ha)]

end Go.Proofs.Ytdlcihbfdbdbbaa.B

/- The lowest so many bytes of a number, as a string: plain Lean. -/
namespace Go.Proofs.Ytdlcihbfdbdbbaa.Num
set_option linter.unusedVariables false
set_option linter.unusedSimpArgs false
open Go Go.RowKit Go.Proofs.Ytdlcihbfdbdbbaa.B Go.Proofs.YtdlcihbfdbdbbaaW.PrintWords Go.Proofs.YtdlcihbfdbdbbaaW.PrintLast Go.Proofs.YtdlcihbfdbdbbaaW.PrintMore

/-- The lowest so many bytes, as both texts have them. -/
def ofI (n : Nat) (c : Int) : List UInt8 := ofN (min c.toNat 64) n
def strN (l : List UInt8) : ByteArray := ⟨l.toArray⟩
theorem strN_eq (xs : List Int) (l : List UInt8) (h : xs = l.map fun b => (b.toNat : Int)) : strOfNums xs = strN l := by
  subst h
  simp [strOfNums, strN, List.map_map, Function.comp_def]

end Go.Proofs.Ytdlcihbfdbdbbaa.Num

/- What the program's reading of a number comes to: plain Lean. -/
namespace Go.Proofs.Ytdlcihbfdbdbbaa.Num
set_option linter.unusedVariables false
set_option linter.unusedSimpArgs false
open Go Go.RowKit Go.Proofs.Ytdlcihbfdbdbbaa.P Go.Proofs.Ytdlcihbfdbdbbaa.B Go.Proofs.YtdlcihbfdbdbbaaW.PrintWords Go.Proofs.YtdlcihbfdbdbbaaW.PrintLast Go.Proofs.YtdlcihbfdbdbbaaW.PrintMore

theorem number_loop (s : ByteArray) (hs : s.size ≤ 8) : ∀ (d k i : Nat), i + d = s.size → d < k →
    cursor_number.l0 k s ((leN (s.data.toList.take i) : Nat) : Int) (s.size : Int) (i : Int) = some ((leN s.data.toList : Nat) : Int) := by
  have hl : s.data.toList.length = s.size := toList_length s
  intro d
  induction d with
  | zero =>
    intro k i hd hk
    obtain ⟨k, rfl⟩ : ∃ m, k = m + 1 := ⟨k - 1, by omega⟩
    simp only [cursor_number.l0]
    rw [if_neg (by omega), List.take_of_length_le (by omega)]
  | succ d ih =>
    intro k i hd hk
    obtain ⟨k, rfl⟩ : ∃ m, k = m + 1 := ⟨k - 1, by omega⟩
    have hlt : i < s.data.toList.length := by omega
    have h8 : wrap64 (8 * (i : Int)) = ((8 * i : Nat) : Int) := by rw [wrap_id (by omega) (by omega)]; omega
    have hi1 : wrap64 ((i : Int) + 1) = ((i + 1 : Nat) : Int) := by rw [wrap_id (by omega) (by omega)]; omega
    have hb := bt_nat s i hlt
    have ht := leN_lt (s.data.toList.take i)
    rw [List.length_take, Nat.min_eq_left (by omega)] at ht
    simp only [cursor_number.l0]
    rw [if_pos (by omega), if_pos (by omega), if_pos (by omega), h8, if_pos (by omega), hi1, hb, or_shl _ _ i (by omega) ht (UInt8.toNat_lt _)]
    have e : leN (s.data.toList.take (i + 1)) = leN (s.data.toList.take i) + 256 ^ i * (s.data.toList[i]).toNat := by
      rw [List.take_succ_eq_append_getElem hlt, leN_append, List.length_take, Nat.min_eq_left (by omega)]
      simp [leN]
    rw [← e]
    exact ih k (i + 1) (by omega) (by omega)

theorem number_eq (s : ByteArray) (hs : s.size ≤ 8) (k : Nat) (hk : 8 < k) : cursor_number.f k s = some ((leN s.data.toList : Nat) : Int) := by
  have := number_loop s hs s.size k 0 (by omega) (by omega)
  simpa [cursor_number.f, leN] using this

end Go.Proofs.Ytdlcihbfdbdbbaa.Num

/- What the cursor's methods come to, over bytes that are told as lists: plain Lean. -/
namespace Go.Proofs.Ytdlcihbfdbdbbaa.Cur
set_option linter.unusedVariables false
set_option linter.unusedSimpArgs false
open Go Go.RowKit Go.Proofs.Ytdlcihbfdbdbbaa.P Go.Proofs.Ytdlcihbfdbdbbaa.B Go.Proofs.Ytdlcihbfdbdbbaa.Num Go.Proofs.YtdlcihbfdbdbbaaW.PrintWords Go.Proofs.YtdlcihbfdbdbbaaW.PrintLast Go.Proofs.YtdlcihbfdbdbbaaW.PrintMore

theorem strN_data (l : List UInt8) : (strN l).data.toList = l := rfl
theorem strN_size (l : List UInt8) : (strN l).size = l.length := by simp [strN, ByteArray.size]
theorem strN_append (a b : List UInt8) : strN a ++ strN b = strN (a ++ b) := by
  apply ByteArray.ext; apply Array.toList_inj.1; simp [strN]
theorem strN_of (s : ByteArray) : strN s.data.toList = s := rfl
theorem ext_list {s t : ByteArray} (h : s.data.toList = t.data.toList) : s = t := ByteArray.ext (Array.toList_inj.1 h)
theorem extract_list (s : ByteArray) (i j : Nat) : (s.extract i j).data.toList = (s.data.toList.take j).drop i := by
  simp [List.extract_eq_take_drop, List.drop_take]
theorem extract_strN {s : ByteArray} {pre mid post : List UInt8} (h : s.data.toList = pre ++ mid ++ post) : s.extract pre.length (pre.length + mid.length) = strN mid := by
  apply ext_list
  rw [extract_list, h, strN_data, List.append_assoc, List.take_append]
  simp
theorem number_strN (l : List UInt8) (h : l.length ≤ 8) (k : Nat) (hk : 8 < k) : cursor_number.f k (strN l) = some ((leN l : Nat) : Int) := by
  have := number_eq (strN l) (by rw [strN_size]; exact h) k hk
  rwa [strN_data] at this

section
variable {s : ByteArray} {at_ n : Int} {pre mid post : List UInt8}
theorem take_list (hs : s.size ≤ 140737488351232) (h : s.data.toList = pre ++ mid ++ post) (ha : at_ = pre.length) (hn : n = mid.length) :
    cursor_Cursor_Take.f s at_ 0 n = some (strN mid, s, (((pre ++ mid).length : Nat) : Int), 0) := by
  have hl : s.size = pre.length + mid.length + post.length := by rw [← toList_length s, h]; simp; omega
  unfold cursor_Cursor_Take.f
  rw [if_pos rfl, if_neg (by omega), wrap_id (x := (s.size : Int) - at_) (by omega) (by omega), if_neg (by omega), wrap_id (x := at_ + n) (by omega) (by omega), if_pos (by omega), if_pos (by omega), if_pos (by omega)]
  have e1 : at_.toNat = pre.length := by omega
  have e2 : (at_ + n).toNat = pre.length + mid.length := by omega
  rw [e1, e2, extract_strN h]
  simp only [Option.some.injEq, Prod.mk.injEq, and_true, true_and]
  simp; omega
/-- Nothing is taken behind the end. -/
theorem take_short (hs : s.size ≤ 140737488351232) (ha : 0 ≤ at_) (ha2 : at_ ≤ s.size) (hn : n < 0 ∨ (s.size : Int) - at_ < n) : cursor_Cursor_Take.f s at_ 0 n = some (strN [], s, at_, 3) := by
  unfold cursor_Cursor_Take.f
  rw [if_pos rfl]
  by_cases h0 : n < 0
  · rw [if_pos h0]; rfl
  · rw [if_neg h0, wrap_id (x := (s.size : Int) - at_) (by omega) (by omega), if_pos (by omega)]; rfl
theorem take_bad {e : Int} (he : e ≠ 0) : cursor_Cursor_Take.f s at_ e n = some (strN [], s, at_, e) := by
  unfold cursor_Cursor_Take.f
  rw [if_neg he]; rfl
end
end Go.Proofs.Ytdlcihbfdbdbbaa.Cur

/- A cursor at what is left of its bytes, as a list: plain Lean. -/
namespace Go.Proofs.Ytdlcihbfdbdbbaa.Cur
set_option linter.unusedVariables false
set_option linter.unusedSimpArgs false
open Go Go.RowKit Go.Proofs.Ytdlcihbfdbdbbaa.P Go.Proofs.Ytdlcihbfdbdbbaa.B Go.Proofs.Ytdlcihbfdbdbbaa.Num Go.Proofs.YtdlcihbfdbdbbaaW.PrintWords Go.Proofs.YtdlcihbfdbdbbaaW.PrintLast Go.Proofs.YtdlcihbfdbdbbaaW.PrintMore
/-- At this place the bytes R are left. -/
def At (s : ByteArray) (a : Int) (R : List UInt8) : Prop := s.size ≤ 140737488351232 ∧ ∃ pre : List UInt8, s.data.toList = pre ++ R ∧ a = pre.length
theorem At.start (s : ByteArray) (hs : s.size ≤ 140737488351232) : At s 0 s.data.toList := ⟨hs, [], rfl, rfl⟩
theorem At.size {s : ByteArray} {a : Int} {R : List UInt8} (h : At s a R) : (s.size : Int) = a + R.length := by
  obtain ⟨_, pre, he, rfl⟩ := h
  rw [← toList_length s, he]; simp
theorem At.nn {s : ByteArray} {a : Int} {R : List UInt8} (h : At s a R) : 0 ≤ a := by
  obtain ⟨_, pre, he, rfl⟩ := h
  omega
theorem At.big {s : ByteArray} {a : Int} {R : List UInt8} (h : At s a R) : (s.size : Int) ≤ 140737488351232 := by have := h.1; omega
theorem At.on {s : ByteArray} {a : Int} {m R : List UInt8} (h : At s a (m ++ R)) : At s (a + m.length) R := by
  obtain ⟨hs, pre, he, rfl⟩ := h
  exact ⟨hs, pre ++ m, by rw [he]; simp, by simp⟩
theorem take_at {s : ByteArray} {a n : Int} {m R : List UInt8} (h : At s a (m ++ R)) (hn : n = m.length) : cursor_Cursor_Take.f s a 0 n = some (strN m, s, a + m.length, 0) := by
  obtain ⟨hs, pre, he, rfl⟩ := h
  rw [take_list (pre := pre) (mid := m) (post := R) hs (by rw [he]; simp) rfl hn]
  simp
theorem take_fail {s : ByteArray} {a n : Int} {R : List UInt8} (h : At s a R) (hn : n < 0 ∨ (R.length : Int) < n) : cursor_Cursor_Take.f s a 0 n = some (strN [], s, a, 3) := by
  have h1 := h.size
  have h2 := h.nn
  exact take_short h.1 h2 (by omega) (by omega)
theorem left_at {s : ByteArray} {a : Int} {R : List UInt8} (h : At s a R) : wrap64 ((s.size : Int) - a) = R.length := by
  have h1 := h.size
  have h2 := h.nn
  have h3 := h.big
  rw [wrap_id (by omega) (by omega)]; omega
theorem leN_one (x : UInt8) : leN [x] = x.toNat := by simp [leN]
end Go.Proofs.Ytdlcihbfdbdbbaa.Cur

/- Two: what it takes. -/
namespace Go.Proofs.Ytdlcihbfdbdbbaa.Cur
set_option linter.unusedVariables false
set_option linter.unusedSimpArgs false
open Go Go.RowKit Go.Proofs.Ytdlcihbfdbdbbaa.P Go.Proofs.Ytdlcihbfdbdbbaa.B Go.Proofs.Ytdlcihbfdbdbbaa.Num Go.Proofs.YtdlcihbfdbdbbaaW.PrintWords Go.Proofs.YtdlcihbfdbdbbaaW.PrintLast Go.Proofs.YtdlcihbfdbdbbaaW.PrintMore
section
variable {s : ByteArray} {at_ : Int} {pre mid post : List UInt8}
theorem two_list (hs : s.size ≤ 140737488351232) (h : s.data.toList = pre ++ mid ++ post) (ha : at_ = pre.length) (hn : mid.length = 2) (k : Nat) (hk : 8 < k) :
    cursor_Cursor_Two.f k s at_ 0 = some (((leN mid : Nat) : Int), s, (((pre ++ mid).length : Nat) : Int), 0) := by
  unfold cursor_Cursor_Two.f
  have hb := leN_lt mid
  rw [hn] at hb
  rw [take_list hs h ha (by omega)]
  simp only [Option.bind_some]
  rw [number_strN _ (by omega) _ hk]
  simp only [Option.bind_some]
  rw [u16_mod, show ((leN mid : Nat) : Int) % 65536 = (leN mid : Nat) by omega]
theorem two_short (hs : s.size ≤ 140737488351232) (ha : 0 ≤ at_) (ha2 : at_ ≤ s.size) (hn : (s.size : Int) - at_ < 2) (k : Nat) (hk : 8 < k) : cursor_Cursor_Two.f k s at_ 0 = some (0, s, at_, 3) := by
  unfold cursor_Cursor_Two.f
  rw [take_short hs ha ha2 (.inr hn)]
  simp only [Option.bind_some]
  rw [number_strN _ (by simp) _ hk]
  rfl
theorem two_bad {e : Int} (he : e ≠ 0) (k : Nat) (hk : 8 < k) : cursor_Cursor_Two.f k s at_ e = some (0, s, at_, e) := by
  unfold cursor_Cursor_Two.f
  rw [take_bad he]
  simp only [Option.bind_some]
  rw [number_strN _ (by simp) _ hk]
  rfl
end
end Go.Proofs.Ytdlcihbfdbdbbaa.Cur

/- Two at what is left: plain Lean. -/
namespace Go.Proofs.Ytdlcihbfdbdbbaa.Cur
set_option linter.unusedVariables false
set_option linter.unusedSimpArgs false
open Go Go.RowKit Go.Proofs.Ytdlcihbfdbdbbaa.P Go.Proofs.Ytdlcihbfdbdbbaa.B Go.Proofs.Ytdlcihbfdbdbbaa.Num Go.Proofs.YtdlcihbfdbdbbaaW.PrintWords Go.Proofs.YtdlcihbfdbdbbaaW.PrintLast Go.Proofs.YtdlcihbfdbdbbaaW.PrintMore
theorem two_at {s : ByteArray} {a : Int} {m R : List UInt8} (h : At s a (m ++ R)) (hn : m.length = 2) (k : Nat) (hk : 8 < k) : cursor_Cursor_Two.f k s a 0 = some (((leN m : Nat) : Int), s, a + m.length, 0) := by
  obtain ⟨hs, pre, he, rfl⟩ := h
  rw [two_list (pre := pre) (mid := m) (post := R) hs (by rw [he]; simp) rfl hn k hk]
  simp
theorem two_fail {s : ByteArray} {a : Int} {R : List UInt8} (h : At s a R) (hn : R.length < 2) (k : Nat) (hk : 8 < k) : cursor_Cursor_Two.f k s a 0 = some (0, s, a, 3) := by
  have h1 := h.size
  have h2 := h.nn
  exact two_short h.1 h2 (by omega) (by omega) k hk
end Go.Proofs.Ytdlcihbfdbdbbaa.Cur

/- strings.Builder: the library's contracts (WriteString, String), laid at this program's own numbers. Printed by wip/lib/genbuild.py. -/
namespace Go.Proofs.Ytdlcihbfdbdbbaa.Sb
set_option linter.unusedVariables false
set_option linter.unusedSimpArgs false
open Go Go.RowKit Go.Shelf Go.Proofs

/-- The shelf's numbers, as they are here. -/
def here : Ren := ⟨fun n => if n = 166 then 27 else if n = 169 then 30 else if n = 240 then 37 else if n = 276 then 43 else n, fun n => if n = 0 then 0 else if n = 3 then 3 else if n = 4 then 4 else if n = 5 then 5 else if n = 9 then 9 else if n = 20 then 20 else if n = 37 then 58 else if n = 70 then 57 else if n = 72 then 60 else if n = 75 then 62 else if n = 164 then 81 else if n = 127 then 75 else if n = 80 then 66 else n, fun n => n⟩
theorem lays166 : Lays.n166 Try.prog here where
  mixed := by kernel_rfl
  f166 := (show Try.prog.funcs[27]? = some (Body.n166 here) from Try.func27.trans (congrArg some (by kernel_rfl)))
  f240 := (show Try.prog.funcs[37]? = some (Body.n240 here) from Try.func37.trans (congrArg some (by kernel_rfl)))
  f276 := (show Try.prog.funcs[43]? = some (Body.n276 here) from Try.func43.trans (congrArg some (by kernel_rfl)))
  t0 := Try.underlying0
  a0 := Try.isAgg0
  z0 := Try.sizeOf0
  v0 := Try.zeroValue0
  t3 := Try.underlying3
  a3 := Try.isAgg3
  z3 := Try.sizeOf3
  v3 := Try.zeroValue3
  t4 := Try.underlying4
  a4 := Try.isAgg4
  z4 := Try.sizeOf4
  v4 := Try.zeroValue4
  t9 := Try.underlying9
  a9 := Try.isAgg9
  z9 := Try.sizeOf9
  v9 := Try.zeroValue9
  t20 := Try.underlying20
  a20 := Try.isAgg20
  z20 := Try.sizeOf20
  v20 := Try.zeroValue20
  t37 := Try.underlying58
  a37 := Try.isAgg58
  z37 := Try.sizeOf58
  v37 := Try.zeroValue58
  t70 := Try.underlying57
  a70 := Try.isAgg57
  z70 := Try.sizeOf57
  v70 := Try.zeroValue57
  t72 := Try.underlying60
  a72 := Try.isAgg60
  z72 := Try.sizeOf60
  v72 := Try.zeroValue60
  t75 := Try.underlying62
  a75 := Try.isAgg62
  z75 := Try.sizeOf62
  v75 := Try.zeroValue62
  t164 := Try.underlying81
  a164 := Try.isAgg81
  z164 := Try.sizeOf81
  v164 := Try.zeroValue81
theorem lays169 : Lays.n169 Try.prog here where
  mixed := by kernel_rfl
  f169 := (show Try.prog.funcs[30]? = some (Body.n169 here) from Try.func30.trans (congrArg some (by kernel_rfl)))
  t0 := Try.underlying0
  a0 := Try.isAgg0
  z0 := Try.sizeOf0
  v0 := Try.zeroValue0
  t3 := Try.underlying3
  a3 := Try.isAgg3
  z3 := Try.sizeOf3
  v3 := Try.zeroValue3
  t9 := Try.underlying9
  a9 := Try.isAgg9
  z9 := Try.sizeOf9
  v9 := Try.zeroValue9
  t37 := Try.underlying58
  a37 := Try.isAgg58
  z37 := Try.sizeOf58
  v37 := Try.zeroValue58
  t70 := Try.underlying57
  a70 := Try.isAgg57
  z70 := Try.sizeOf57
  v70 := Try.zeroValue57
  t72 := Try.underlying60
  a72 := Try.isAgg60
  z72 := Try.sizeOf60
  v72 := Try.zeroValue60
  t127 := Try.underlying75
  a127 := Try.isAgg75
  z127 := Try.sizeOf75
  v127 := Try.zeroValue75
theorem extra : Builder.Extra Try.prog here where
  sizeBuilder := by kernel_rfl
  liesBuilder := by kernel_rfl
  t5 := Try.underlying5
  a5 := Try.isAgg5
  z5 := Try.sizeOf5
  v5 := Try.zeroValue5
  infoByte := by kernel_rfl
  cellsByte := by kernel_rfl
  sizeByte := by kernel_rfl
  neB5 := by decide
theorem at_below {T e : TypeId} {B b : Nat} {p : Value} {bs : List Value} {W W' : World} (h : Lib.BuilderAt T e B b p bs W) (hb : Below W.heap.size W W') : Lib.BuilderAt T e B b p bs W' := by
  obtain ⟨hB, v, hv, hown, hne⟩ := h
  have hlt : b < W.heap.size := by
    rcases Nat.lt_or_ge b W.heap.size with h' | h'
    · exact h'
    · simp [Array.getElem?_eq_none h'] at hv
  exact ⟨hB, v, (hb.block b hlt).trans hv, hown.kept (row := none) ⟨hb.os, hb.tape, hb.output, hb.size, fun k hk _ => hb.block k hk⟩ (Classical.em _), hne⟩
theorem is_below {T e : TypeId} {B b : Nat} {bs : List Value} {W W' : World} (h : Lib.IsBuilder T e B b bs W) (hb : Below W.heap.size W W') : Lib.IsBuilder T e B b bs W' :=
  h.elim (fun x => .inl (at_below x hb)) (fun x => .inr (at_below x hb))
/-- WriteString, String, at this program's numbers. -/
theorem write_calls (B b : Nat) (l : List UInt8) (s : ByteArray) (w : World) (h : Lib.IsBuilder 60 5 B b (Lib.byteCells l) w) (hlen : l.length + s.size ≤ 140737488355328) (hBw : B ≤ w.heap.size) :
    Calls Try.prog 27 #[.pointer (some ⟨b, 0, none⟩), .string s] w fun e w' => e = .returned (.tuple #[.int .i64 s.size, .nilIface]) ∧ (Lib.IsBuilder 60 5 B b (Lib.byteCells (l ++ s.data.toList)) w' ∧ Below B w w') :=
  (Any.Builder_WriteString lays166 extra B b _ s w h (by rw [Lib.byteCells_length]; exact hlen) hBw).mono fun e w' ⟨he, hat, hb⟩ => ⟨he, by
    have hq : Lib.byteCells l ++ Lib.strCells s = Lib.byteCells (l ++ s.data.toList) := by rw [Lib.strCells_eq]; simp [Lib.byteCells]
    rw [hq] at hat; exact .inr hat, hb⟩
theorem string_calls (B b : Nat) (l : List UInt8) (w : World) (h : Lib.IsBuilder 60 5 B b (Lib.byteCells l) w) (hBw : B ≤ w.heap.size) :
    Calls Try.prog 30 #[.pointer (some ⟨b, 0, none⟩)] w fun e w' => e = .returned (.string ⟨l.toArray⟩) ∧ Below B w w' :=
  Any.Builder_String_any lays169 extra B b l w h hBw
theorem fresh (w : World) : Lib.IsBuilder 60 5 w.heap.size w.heap.size (Lib.byteCells []) (w.alloc (.cells #[.pointer none, .slice none 0 0] 60)) := Lib.fresh_isBuilder 60 5 w
end Go.Proofs.Ytdlcihbfdbdbbaa.Sb

/- strings.Builder: the library's contracts with the frame above the builder. Printed by wip/lib/genbuild.py. -/
namespace Go.Proofs.Ytdlcihbfdbdbbaa.Sb
set_option linter.unusedVariables false
set_option linter.unusedSimpArgs false
open Go Go.RowKit Go.Shelf Go.Proofs Go.Proofs.YtdlcihbfdbdbbaaW.PrintWords Go.Proofs.YtdlcihbfdbdbbaaW.PrintLast Go.Proofs.YtdlcihbfdbdbbaaW.PrintMore
/-- A builder of the call's own that holds these bytes. -/
def Has (B b : Nat) (l : List UInt8) (w : World) : Prop := Lib.IsBuilderF 60 5 B b (Lib.byteCells l) w
/-- Every block but the builder's, and but rows of bytes, is as it was. -/
def Oth (b : Nat) (w w' : World) : Prop := Lib.OthersKept 5 (some b) w w'
theorem has_fresh (w : World) : Has w.heap.size w.heap.size [] (w.alloc (.cells #[.pointer none, .slice none 0 0] 60)) := Lib.IsBuilderF.of (fresh w)
theorem hasAt_below {T e : TypeId} {B b : Nat} {p : Value} {bs : List Value} {W W' : World} (h : Lib.BuilderAtF T e B b p bs W) (hb : Below W.heap.size W W') : Lib.BuilderAtF T e B b p bs W' := by
  have hlt := h.lt
  obtain ⟨hB, v, hv, hown, hne⟩ := h
  exact ⟨hB, v, (hb.block b hlt).trans hv, hown.kept (row := none) ⟨hb.os, hb.tape, hb.output, hb.size, fun k hk _ => hb.block k hk⟩ (Classical.em _), hne⟩
theorem has_below {B b : Nat} {l : List UInt8} {W W' : World} (h : Has B b l W) (hb : Below W.heap.size W W') : Has B b l W' :=
  h.elim (fun x => .inl (hasAt_below x hb)) (fun x => .inr (hasAt_below x hb))
theorem has_lt {B b : Nat} {l : List UInt8} {w : World} (h : Has B b l w) : B ≤ b ∧ b < w.heap.size := h.elim (fun x => ⟨x.1, x.lt⟩) (fun x => ⟨x.1, x.lt⟩)
theorem oth_blk {b g : Nat} {w w' : World} {cs : Array Value} {t : TypeId} {fr : Nat × Nat} (h : Oth b w w') (hg : w.heap[g]? = some (.cells cs t fr)) (hne : g ≠ b) (ht : t ≠ 5) : w'.heap[g]? = some (.cells cs t fr) :=
  h g _ hg (fun e => hne (Option.some.inj e)) (fun c fz e => ht (by injection e))
theorem writeK_calls (B b : Nat) (l : List UInt8) (s : ByteArray) (w : World) (h : Has B b l w) (hlen : l.length + s.size ≤ 140737488355328) (hBw : B ≤ w.heap.size) :
    Calls Try.prog 27 #[.pointer (some ⟨b, 0, none⟩), .string s] w fun e w' => e = .returned (.tuple #[.int .i64 s.size, .nilIface]) ∧ Has B b (l ++ s.data.toList) w' ∧ Below B w w' ∧ Oth b w w' :=
  (Any.Builder_WriteString_k lays166 extra B b _ s w h (by rw [Lib.byteCells_length]; exact hlen) hBw).mono fun e w' ⟨he, hat, hb, ho⟩ => ⟨he, by
    have hq : Lib.byteCells l ++ Lib.strCells s = Lib.byteCells (l ++ s.data.toList) := by rw [Lib.strCells_eq]; simp [Lib.byteCells]
    rw [hq] at hat; exact .inr hat, hb, ho⟩
theorem stringK_calls (B b : Nat) (l : List UInt8) (w : World) (h : Has B b l w) (hBw : B ≤ w.heap.size) :
    Calls Try.prog 30 #[.pointer (some ⟨b, 0, none⟩)] w fun e w' => e = .returned (.string ⟨l.toArray⟩) ∧ Has B b l w' ∧ Below B w w' ∧ Oth b w w' :=
  Any.Builder_String_any_k lays169 extra B b l w h hBw
end Go.Proofs.Ytdlcihbfdbdbbaa.Sb

/- strings.Builder's Len, laid at this program's own numbers. Printed by wip/lib/genbuild.py. -/
namespace Go.Proofs.Ytdlcihbfdbdbbaa.Sb
set_option linter.unusedVariables false
set_option linter.unusedSimpArgs false
open Go Go.RowKit Go.Shelf Go.Proofs
def hereL : Ren := ⟨fun n => if n = 170 then 29 else here.f n, here.t, fun n => n⟩
theorem lays170 : Lays.n170 Try.prog hereL where
  mixed := by kernel_rfl
  f170 := (show Try.prog.funcs[29]? = some (Body.n170 hereL) from Try.func29.trans (congrArg some (by kernel_rfl)))
  t0 := Try.underlying0
  a0 := Try.isAgg0
  z0 := Try.sizeOf0
  v0 := Try.zeroValue0
  t3 := Try.underlying3
  a3 := Try.isAgg3
  z3 := Try.sizeOf3
  v3 := Try.zeroValue3
  t37 := Try.underlying58
  a37 := Try.isAgg58
  z37 := Try.sizeOf58
  v37 := Try.zeroValue58
  t70 := Try.underlying57
  a70 := Try.isAgg57
  z70 := Try.sizeOf57
  v70 := Try.zeroValue57
  t72 := Try.underlying60
  a72 := Try.isAgg60
  z72 := Try.sizeOf60
  v72 := Try.zeroValue60
theorem len_calls (B b : Nat) (l : List UInt8) (w : World) (h : Has B b l w) :
    Calls Try.prog 29 #[.pointer (some ⟨b, 0, none⟩)] w fun e w' => e = .returned (.int .i64 l.length) ∧ w' = w := by
  have := Any.Builder_Len_f lays170 B b (Lib.byteCells l) w h
  rw [Lib.byteCells_length] at this
  exact this
end Go.Proofs.Ytdlcihbfdbdbbaa.Sb

/- extra.place: the first field of an ID (slices.IndexFunc with a closure), in the printer's form: the walk. -/
namespace Go.Proofs.Ytdlcihbfdbdbbaa.P
set_option linter.unusedVariables false
set_option linter.unusedSimpArgs false
open Go Go.RowKit Go.Shelf Go.Proofs Go.Proofs.YtdlcihbfdbdbbaaW.PrintWords Go.Proofs.YtdlcihbfdbdbbaaW.PrintLast Go.Proofs.YtdlcihbfdbdbbaaW.PrintMore
/-- The place of the first field of an ID; -1. -/
def placeOf (l : List S38) (id : Int) : Int := match l.findIdx? (fun x => x.f0 == id) with | some j => (j : Int) | none => -1
theorem placeOf_hit (l : List S38) (id : Int) (k : Nat) (hk : k < l.length) (h : l[k].f0 = id) (hn : ∀ j (hj : j < k), (l[j]'(by omega)).f0 ≠ id) : placeOf l id = (k : Int) := by
  unfold placeOf
  rw [show l.findIdx? (fun x => x.f0 == id) = some k from List.findIdx?_eq_some_iff_getElem.2 ⟨hk, by simp [h], fun j hj => by simpa using hn j hj⟩]
theorem placeOf_miss (l : List S38) (id : Int) (hn : ∀ j (hj : j < l.length), l[j].f0 ≠ id) : placeOf l id = -1 := by
  unfold placeOf
  rw [show l.findIdx? (fun x => x.f0 == id) = none from List.findIdx?_eq_none_iff.2 (fun x hx => by
    obtain ⟨j, hj, rfl⟩ := List.mem_iff_getElem.1 hx
    simpa using hn j hj)]
set_option maxHeartbeats 4000000 in
theorem place_closure (B : Nat) (id x : Int) (y : ByteArray) (w : World) (hB : B < w.heap.size) (hcell : w.cell? ⟨B, 0, none⟩ = some (.int .u16 id)) :
    Calls Try.prog 40 #[.agg #[.int .u16 x, .string y], .pointer (some ⟨B, 0, none⟩)] w fun e w' => e = .returned (.bool (x == id)) ∧ Below w.heap.size w w' := by
  have hne : B ≠ w.heap.size := by omega
  have HW := Aside0.mk (below_alloc (Below.refl w.heap.size w) (.cells #[.int .u16 x, .string y] 38))
  go_enter Try.func40, Try.ntmps40
  go_wp2
  go_ret
  exact ⟨rfl, HW.out⟩
theorem rdT_get (l : List S38) (k : Nat) (hk : k < l.length) : rd_T38 l (k : Int) = l[k] := by
  unfold rd_T38
  rw [Int.toNat_natCast, List.getD_eq_getElem?_getD, List.getElem?_eq_getElem hk]
  rfl
set_option maxHeartbeats 4000000 in
set_option maxRecDepth 100000 in
theorem indexfunc_calls (l : List S38) (A : Option Addr) (c : Nat) (id : Int) (B : Nat) (w0 w : World) (hr : Kd.C k38 w0 A l.length l) (hw : Below w0.heap.size w0 w) (hl : l.length ≤ 1000000) (hB : B < w.heap.size) (hcell : w.cell? ⟨B, 0, none⟩ = some (.int .u16 id)) :
    Calls Try.prog 39 #[.slice A l.length c, .func (.func 40) #[] #[.pointer (some ⟨B, 0, none⟩)]] w fun e w' => e = .returned (.int .i64 (placeOf l id)) ∧ Below w.heap.size w w' := by
  have eg : ∀ args w, (callFunc 40 args).run Try.prog w = .ok (.enter 40 args) w := enters_of Try.func40 (by kernel_rfl) rfl
  have HR := Aside0.mk hr
  have HL := Aside0.mk hl
  have HB := Aside0.mk (Below.refl w.heap.size w)
  have HC := Aside0.mk hcell
  have HBB := Aside0.mk hB
  have HW := Aside0.mk hw
  clear hr hl hcell hB hw
  go_enter Try.func39, Try.ntmps39
  go_wp2
  go_loopw [5, 8] (fun _ v8 wr => ∃ k : Nat, v8 = .int .i64 k ∧ k ≤ l.length ∧ Aside0 (∀ j (hj : j < k) (h : j < l.length), l[j].f0 ≠ id) ∧ Aside0 (Below w.heap.size w wr)) (fun _ v8 _ => l.length - (intOf v8).toNat)
  case atStart => exact ⟨0, rfl, by omega, ⟨fun j hj _ => absurd hj (Nat.not_lt_zero _)⟩, HB⟩
  case round =>
    clear HB
    obtain ⟨k, rfl, hk, HN, HB⟩ := hrel
    by_cases hlt : k < l.length
    · have hd : decide (k < l.length) = true := decide_eq_true hlt
      obtain ⟨ad, e1, hx0, hx1⟩ := at_T38 HR.out (k : Int) (by omega) (by omega)
      cases e1
      rw [rdT_get l k hlt, Int.toNat_natCast] at hx0 hx1
      have hbl0 := World.block_lt_of_cell? _ _ hx0
      have hbl1 := World.block_lt_of_cell? _ _ hx1
      replace hx0 := (HW.out.cell hbl0).trans hx0
      replace hx1 := (HW.out.cell hbl1).trans hx1
      replace hx0 := (HB.out.cell (World.block_lt_of_cell? _ _ hx0)).trans hx0
      replace hx1 := (HB.out.cell (World.block_lt_of_cell? _ _ hx1)).trans hx1
      have p1 := eq_true (show (0 : Int) ≤ (k : Int) by omega)
      have q1 := eq_true (show (k : Int) < (l.length : Int) by omega)
      have hlb := HL.out
      have HC' := Aside0.mk (show wr.cell? ⟨B, 0, none⟩ = some (.int .u16 id) from (HB.out.cell (p := ⟨B, 0, none⟩) HBB.out).trans HC.out)
      have HBl := Aside0.mk (show B < wr.heap.size from Nat.lt_of_lt_of_le HBB.out HB.out.size)
      obtain ⟨x, y, hxy⟩ : ∃ x y, l[k] = (⟨x, y⟩ : S38) := ⟨_, _, rfl⟩
      rw [hxy] at hx0 hx1
      dsimp only at hx0 hx1
      have HX := Aside0.mk (show l[k].f0 = x by rw [hxy])
      clear hxy hbl0 hbl1
      cases hq : (x == id) with
      | true =>
        have HQ := Aside0.mk hq
        have hcl := place_closure B id x y wr HBl.out HC'.out
        rw [hq] at hcl
        clear hq
        go_wp2_with (go_at_fn 40; refine hcl.mono ?_; rintro e w1 ⟨rfl, hb⟩; have HB1 := Aside0.mk (HB.out.trans (hb.mono HB.out.size)); clear hb)
        go_ret
        refine ⟨?_, HB1.out⟩
        rw [placeOf_hit l id k hlt (by rw [HX.out]; exact beq_iff_eq.1 HQ.out) (fun j hj => HN.out j hj (by omega))]
        rfl
      | false =>
        have HQ := Aside0.mk hq
        have hcl := place_closure B id x y wr HBl.out HC'.out
        rw [hq] at hcl
        clear hq
        go_wp2_with (go_at_fn 40; refine hcl.mono ?_; rintro e w1 ⟨rfl, hb⟩; have HB1 := Aside0.mk (HB.out.trans (hb.mono HB.out.size)); clear hb)
        go_roundw
        case rel =>
          refine ⟨k + 1, by go_num, by omega, ⟨fun j hj h => ?_⟩, HB1⟩
          by_cases e : j = k
          · subst e; rw [HX.out]; exact beq_eq_false_iff_ne.1 HQ.out
          · exact HN.out j (by omega) h
        case measure => simp [intOf]; omega
    · have hd : decide (k < l.length) = false := decide_eq_false hlt
      have hke : k = l.length := by omega
      go_wp2
      go_ret
      refine ⟨?_, HB.out⟩
      rw [placeOf_miss l id (fun j hj => HN.out j (by omega) hj)]
      rfl
def extra_place.f (l0 : List S38) (a1 : Int) : Option Int := if l0.length ≤ 1000000 then some (placeOf l0 a1) else none
set_option maxHeartbeats 4000000 in
theorem extra_place.calls (A0 : Option Addr) (c0 : Nat) (l0 : List S38) (a1 : Int) (r : Int) (w : World) (hr0 : Kd.C k38 w A0 l0.length l0) (hc0 : l0.length ≤ c0) (h : extra_place.f l0 a1 = some r) :
    Calls Try.prog 32 #[.slice A0 l0.length c0, .int .u16 a1] w fun e w' => e = .returned (.int .i64 r) ∧ Below w.heap.size w w' := by
  unfold extra_place.f at h
  by_cases hl : l0.length ≤ 1000000
  case neg => rw [if_neg hl] at h; cases h
  rw [if_pos hl] at h
  obtain rfl := Option.some.inj h
  have hcon := indexfunc_calls l0 A0 c0 a1 w.heap.size w (w.alloc (.cells #[.int .u16 a1] 36)) hr0 (below_alloc (Below.refl w.heap.size w) _) hl (by simp) (by simp)
  have HH := Aside0.mk hcon
  have HB := Aside0.mk (below_alloc (Below.refl w.heap.size w) (.cells #[.int .u16 a1] 36))
  clear hcon hr0 hc0 h hl
  go_enter Try.func32, Try.ntmps32
  go_wp2_with (go_at_call 39; refine HH.out.mono ?_; rintro e w1 ⟨rfl, hb⟩; have HB1 := Aside0.mk (HB.out.trans (hb.mono HB.out.size)); clear hb)
  go_ret
  exact ⟨rfl, HB1.out⟩
end Go.Proofs.Ytdlcihbfdbdbbaa.P

/- Rows of fields that the call owns: append(own, row...), what it leaves. -/
namespace Go.Proofs.Ytdlcihbfdbdbbaa.P
set_option linter.unusedVariables false
set_option linter.unusedSimpArgs false
open Go Go.RowKit Go.Proofs.YtdlcihbfdbdbbaaW.PrintWords Go.Proofs.YtdlcihbfdbdbbaaW.PrintLast Go.Proofs.YtdlcihbfdbdbbaaW.PrintMore
def cl (l : List S38) : List Value := l.flatMap fun x => [.int .u16 x.f0, .string x.f1]
theorem cl_len (l : List S38) : (cl l).length = l.length * 2 := by
  induction l with
  | nil => rfl
  | cons x l ih => simp [cl] at ih ⊢; omega
theorem cl_app (a b : List S38) : cl (a ++ b) = cl a ++ cl b := by simp [cl]
theorem cl_one (l : List S38) : ∀ u ∈ cl l, u.oneCell' = true := by
  intro u hu
  simp only [cl, List.mem_flatMap] at hu
  obtain ⟨x, _, hx⟩ := hu
  simp only [List.mem_cons, List.not_mem_nil, or_false] at hx
  rcases hx with rfl | rfl <;> rfl
theorem cl_get (l : List S38) (j : Nat) (hj : j < l.length) : (cl l)[j * 2]? = some (.int .u16 l[j].f0) ∧ (cl l)[j * 2 + 1]? = some (.string l[j].f1) := by
  induction l generalizing j with
  | nil => simp at hj
  | cons x l ih =>
    cases j with
    | zero => exact ⟨rfl, rfl⟩
    | succ j =>
      have := ih j (by simpa using hj)
      rw [show (j + 1) * 2 = j * 2 + 2 by omega, show j * 2 + 2 + 1 = j * 2 + 1 + 2 by omega]
      exact this
/-- A row of fields of the call's own. -/
def Own (w : World) (base : Nat) (v : Value) (l : List S38) : Prop := w.ownsRow base 38 2 v l.length (cl l)
theorem Own.toR {w : World} {base : Nat} {v : Value} {l : List S38} (h : Own w base v l) : Kd.R k38 38 w base (fun _ => True) v l := by
  refine ⟨fun _ _ => trivial, cl l, h, ?_⟩
  have hr : ∀ (l : List S38), Reps (k38.M w base (fun k => True ∧ some k ≠ v.ownBlock)) 2 l (cl l) := by
    intro l
    have : ∀ (n : Nat), n ≤ l.length → Reps (k38.M w base (fun k => True ∧ some k ≠ v.ownBlock)) 2 (l.take n) (cl (l.take n)) := by
      intro n
      induction n with
      | zero => intro _; exact Reps.none _ _
      | succ n ih =>
        intro hn
        rw [List.take_succ_eq_append_getElem (by omega), cl_app]
        exact (ih (by omega)).snoc (k38_mkM _ _ _ _) rfl
    have := this l.length (Nat.le_refl _)
    rwa [List.take_length] at this
  exact hr l
theorem Own.reads {w : World} {base : Nat} {v : Value} {l : List S38} (h : Own w base v l) : ∃ A c, v = .slice A l.length c ∧ l.length ≤ c ∧ Kd.C k38 w A l.length l := Kd.R_reads h.toR
theorem addr_succ (a : Addr) (q j : Nat) (h : j = q + 1) : a.add j = ⟨(a.add q).block, (a.add q).off + 1, none⟩ := by
  subst h
  by_cases hq : q = 0
  · subst hq; simp [Addr.add]
  · simp [Addr.add, hq]; omega
/-- The cells of a row that is read. -/
theorem C_cells {w : World} {A : Addr} {l : List S38} (h : Kd.C k38 w (some A) l.length l) : ∀ j u, (cl l)[j]? = some u → w.cell? (A.add j) = some u := by
  intro j u hu
  have hj : j < l.length * 2 := by rw [← cl_len]; exact (List.getElem?_eq_some_iff.1 hu).1
  obtain ⟨ad, e1, hx0, hx1⟩ := at_T38 h ((j / 2 : Nat) : Int) (by omega) (by omega)
  cases e1
  rw [rdT_get l (j / 2) (by omega), Int.toNat_natCast] at hx0 hx1
  obtain ⟨g0, g1⟩ := cl_get l (j / 2) (by omega)
  by_cases hp : j % 2 = 0
  · rw [show j / 2 * 2 = j by omega] at hx0 g0
    rw [g0] at hu
    obtain rfl := Option.some.inj hu
    exact hx0
  · rw [show j / 2 * 2 + 1 = j by omega] at g1
    rw [g1] at hu
    obtain rfl := Option.some.inj hu
    rw [addr_succ A (j / 2 * 2) j (by omega)]
    exact hx1
/-- append(v, row...), v a row of the call's own. -/
theorem app_run {w : World} {base : Nat} {v : Value} {l ys : List S38} {A : Option Addr} {c : Nat} (h : Own w base v l) (hC : Kd.C k38 w A ys.length ys) (hn : l.length + ys.length ≤ 1000000) (hbase : base ≤ w.heap.size) (ty : TypeId) :
    ∃ v' w', (Builtin.append_ #[22, 22] ty #[v, .slice A ys.length c]).run Try.prog w = .ok v' w' ∧ Own w' base v' (l ++ ys) ∧ w.grownBy w' v.ownBlock := by
  obtain ⟨i0, hi, hzz⟩ := Option.map_eq_some_iff.1 info38
  simp only [Prod.mk.injEq] at hzz
  have hh : w.ownsRow base 38 2 v l.length (cl l) := h
  cases A with
  | some a =>
    obtain ⟨v', w', h1, h2, h3, _, _⟩ := run_append_own_at (P := Try.prog) w base 22 ty 38 i0 _ 2 24 Try.underlying22 hi hzz.1 hzz.2.1 hzz.2.2 rfl (by decide) v l.length (cl l) hh a ys.length c (cl ys) (cl_len ys) (C_cells hC) (cl_one ys) (by unfold maxLen; omega) (by omega) hbase
    exact ⟨v', w', h1, by unfold Own; rw [List.length_append, cl_app]; exact h2, h3⟩
  | none =>
    have hy : ys = [] := by
      cases ys with
      | nil => rfl
      | cons y ys =>
        obtain ⟨ad, e1, _⟩ := at_T38 hC 0 (by omega) (by simp)
        cases e1
    subst hy
    rw [List.append_nil]
    rcases hh.2 with ⟨rfl, h0⟩ | ⟨g, cap, cur, rfl, hbg, hg, hnc, hcm, hcs, htake⟩
    · refine ⟨.slice none 0 0, w, ?_, h, ⟨rfl, rfl, rfl, Nat.le_refl _, fun _ _ _ => rfl⟩⟩
      simp [Builtin.append_, run_underlying Try.underlying22, sizeOf, typeInfo, hi, Builtin.lenOf, Builtin.firstCells, loadCells, loadCellsFrom]
    · have hr := run_append_room_src (P := Try.prog) w 22 22 ty 38 i0 Try.underlying22 hi g 0 l.length cap (.slice none 0 c) 0 [] (Src.ofNil w Try.underlying22 c) (by omega) (fun j hj => absurd hj (by simp)) (fun j hj => absurd hj (by simp))
      refine ⟨_, _, hr, ?_, ?_⟩
      · exact h
      · exact ⟨rfl, rfl, rfl, Nat.le_refl _, fun _ _ _ => rfl⟩
end Go.Proofs.Ytdlcihbfdbdbbaa.P

/- slices.Clone of fields, in the printer's form: the walk. -/
namespace Go.Proofs.Ytdlcihbfdbdbbaa.P
set_option linter.unusedVariables false
set_option linter.unusedSimpArgs false
open Go Go.RowKit Go.Proofs.YtdlcihbfdbdbbaaW.PrintWords Go.Proofs.YtdlcihbfdbdbbaaW.PrintLast Go.Proofs.YtdlcihbfdbdbbaaW.PrintMore
theorem Own.new0 (w : World) : Own (w.alloc (.cells #[] 38)) w.heap.size (.slice (some ⟨w.heap.size, 0, none⟩) 0 0) [] :=
  ⟨rfl, .inr ⟨w.heap.size, 0, #[], rfl, Nat.le_refl _, heap_alloc_new w _, Nat.le_refl _, by decide, rfl, rfl⟩⟩
set_option maxHeartbeats 4000000 in
set_option maxRecDepth 100000 in
theorem clone_calls (A : Option Addr) (c : Nat) (l : List S38) (w : World) (hr : Kd.C k38 w A l.length l) (hc : l.length ≤ c) (hl : l.length ≤ 1000) :
    Calls Try.prog 34 #[.slice A l.length c] w fun e w' => ∃ v, e = .returned v ∧ Own w' w.heap.size v l ∧ Below w.heap.size w w' := by
  cases A with
  | none =>
    have hl0 : l = [] := by
      cases l with
      | nil => rfl
      | cons x l =>
        obtain ⟨ad, e1, _⟩ := at_T38 hr 0 (by omega) (by simp)
        cases e1
    subst hl0
    have q22 := Lib.run_eql_slice_nil (P := Try.prog) w 22 38 none 0 c 0 0 Try.underlying22
    go_enter Try.func34, Try.ntmps34
    go_wp2
    go_ret
    exact ⟨_, rfl, ⟨rfl, .inl ⟨rfl, rfl⟩⟩, Below.refl _ _⟩
  | some a =>
    have q22 := Lib.run_eql_slice_nil (P := Try.prog) w 22 38 (some a) l.length c 0 0 Try.underlying22
    have hown := Own.new0 w
    have hC := Kd.C_below hr (below_alloc (Below.refl w.heap.size w) (.cells #[] 38))
    obtain ⟨v', w', hrun, ho, hg⟩ := app_run (c := c) hown hC (by simp; omega) (by simp) 22
    have HO := Aside0.mk ho
    have HG := Aside0.mk ((below_alloc (Below.refl w.heap.size w) (.cells #[] 38)).grown hg (by simp) (by intro k hk; simp [Value.ownBlock] at hk; omega))
    clear ho hg hown hC hr hc
    go_enter Try.func34, Try.ntmps34
    go_wp2_with (at_builtin; refine Lib.wpList_append_run _ rfl _ _ 22 22 rfl _ _ rfl rfl v' w' hrun ?_)
    go_ret
    exact ⟨_, rfl, HO.out, HG.out⟩
def api_Field_34.f (l0 : List S38) : Option (List S38) := if l0.length ≤ 1000 then some l0 else none
theorem api_Field_34.calls (A0 : Option Addr) (c0 : Nat) (l0 : List S38) (r : List S38) (w : World) (hr0 : Kd.C k38 w A0 l0.length l0) (hc0 : l0.length ≤ c0) (h : api_Field_34.f l0 = some r) :
    Calls Try.prog 34 #[.slice A0 l0.length c0] w fun e w' => ∃ v0_ : Value, e = .returned (v0_) ∧ Kd.R k38 38 w' w.heap.size (fun _ => True) v0_ r ∧ Below w.heap.size w w' := by
  unfold api_Field_34.f at h
  by_cases hl : l0.length ≤ 1000
  case neg => rw [if_neg hl] at h; cases h
  rw [if_pos hl] at h
  obtain rfl := Option.some.inj h
  exact (clone_calls A0 c0 l0 w hr0 hc0 hl).mono fun e w' ⟨v, he, ho, hb⟩ => ⟨v, he, ho.toR, hb⟩
end Go.Proofs.Ytdlcihbfdbdbbaa.P

/- slices.Concat of fields, in the printer's form: the walk. -/
namespace Go.Proofs.Ytdlcihbfdbdbbaa.P
set_option linter.unusedVariables false
set_option linter.unusedSimpArgs false
open Go Go.RowKit Go.Proofs.YtdlcihbfdbdbbaaW.PrintWords Go.Proofs.YtdlcihbfdbdbbaaW.PrintLast Go.Proofs.YtdlcihbfdbdbbaaW.PrintMore
set_option maxHeartbeats 4000000 in
set_option maxRecDepth 100000 in
theorem grow_calls (n : Nat) (w : World) (hn : n ≤ 100000) :
    Calls Try.prog 42 #[.slice none 0 0, .int .i64 (n : Int)] w fun e w' => ∃ v, e = .returned v ∧ Own w' w.heap.size v [] ∧ Below w.heap.size w w' := by
  have d0 : decide ((n : Int) < 0) = false := decide_eq_false (by omega)
  by_cases hz : n = 0
  · subst hz
    go_enter Try.func42, Try.ntmps42
    go_wp2
    go_ret
    exact ⟨_, rfl, ⟨rfl, .inl ⟨rfl, rfl⟩⟩, Below.refl _ _⟩
  · obtain ⟨i0, hi, hzz⟩ := Option.map_eq_some_iff.1 info38
    simp only [Prod.mk.injEq] at hzz
    have hrun := Lib.run_append_nil_zeros (P := Try.prog) w 22 3 22 38 i0 _ .i64 .i64 Try.underlying22 Try.underlying3 hi hzz.1 n (by omega) (by rw [hzz.2.1]; decide) (by omega) (by rw [hzz.2.2]; omega)
    obtain ⟨cap, hcap⟩ : ∃ cap, grownCap w n 0 38 = cap := ⟨_, rfl⟩
    have hge : n ≤ cap := by rw [← hcap]; exact grownCap_ge _ _ _ _
    have hle : cap ≤ maxLen := by rw [← hcap]; exact grownCap_le_maxLen _ _ _ _ (by unfold maxLen; omega)
    rw [hcap] at hrun
    obtain ⟨cells, hcells⟩ : ∃ cells, (Builtin.zeroCells (Value.agg #[.int .u16 0, .string ⟨#[]⟩]).cells n ++ Builtin.zeroCells (Value.agg #[.int .u16 0, .string ⟨#[]⟩]).cells (cap - n)) = cells := ⟨_, rfl⟩
    have hcs : cells.size = cap * 2 := by
      rw [← hcells, Array.size_append, size_zeroCells, size_zeroCells]
      show n * 2 + (cap - n) * 2 = cap * 2
      omega
    rw [hcells] at hrun
    have HO := Aside0.mk (show Own (w.drew.alloc (.cells cells 38)) w.heap.size (.slice (some ⟨w.heap.size, 0, none⟩) 0 cap) [] from ⟨rfl, .inr ⟨w.heap.size, cap, cells, rfl, Nat.le_refl _, heap_alloc_new w.drew _, Nat.zero_le _, hle, hcs, rfl⟩⟩)
    have HG := Aside0.mk (below_alloc (below_drew1 (Below.refl w.heap.size w)) (.cells cells 38))
    have d1 : decide ((0 : Int) < (n : Int)) = true := decide_eq_true (by omega)
    have d2 : decide (0 < n) = true := decide_eq_true (by omega)
    clear hcells hcs hcap hle hge hzz hi
    go_enter Try.func42, Try.ntmps42
    go_wp2_with (at_builtin; refine Lib.wpList_append_run _ rfl _ _ 22 3 rfl _ _ rfl rfl _ _ hrun ?_)
    go_ret
    exact ⟨_, rfl, HO.out, HG.out⟩
def preC (L : Nat → List S38) : Nat → List S38
  | 0 => []
  | k + 1 => preC L k ++ L k
set_option maxHeartbeats 8000000 in
set_option maxRecDepth 100000 in
theorem concat_calls (N : Nat) (ad : Addr) (L : Nat → List S38) (AA : Nat → Option Addr) (CC : Nat → Nat) (w : World) (hcell : ∀ j, j < N → w.cell? (ad.add j) = some (.slice (AA j) (L j).length (CC j))) (hC : ∀ j, j < N → Kd.C k38 w (AA j) (L j).length (L j))
    (c0 : Nat) (hl : (preC L N).length ≤ 10000) (hN : N ≤ 10000) :
    Calls Try.prog 35 #[.slice (some ad) N c0] w fun e w' => ∃ v, e = .returned v ∧ Own w' w.heap.size v (preC L N) ∧ Below w.heap.size w w' := by
  have hmono : ∀ k, k < N → (preC L k).length + (L k).length ≤ 10000 ∧ (preC L (k + 1)).length = (preC L k).length + (L k).length := by
    have hle : ∀ d k, k + d = N → (preC L k).length ≤ (preC L N).length := by
      intro d
      induction d with
      | zero => intro k hk; rw [show k = N by omega]; exact Nat.le_refl _
      | succ d ih =>
        intro k hk
        have := ih (k + 1) (by omega)
        rw [preC, List.length_append] at this
        omega
    intro k hk
    have h1 := hle (N - (k + 1)) (k + 1) (by omega)
    rw [preC, List.length_append] at h1 ⊢
    exact ⟨by omega, rfl⟩
  have HCELL := Aside0.mk hcell
  have HCC := Aside0.mk hC
  have HMO := Aside0.mk hmono
  have HLL := Aside0.mk hl
  have HNN0 := Aside0.mk hN
  clear hcell hC hmono hl
  go_enter Try.func35, Try.ntmps35
  go_wp2
  go_loop [3, 11] (fun v3 v11 => ∃ k : Nat, k ≤ N ∧ v11 = .int .i64 k ∧ v3 = .int .i64 ((preC L k).length : Int)) (fun _ v11 => N - (intOf v11).toNat)
  case atStart => exact ⟨0, by omega, rfl, rfl⟩
  case round =>
    obtain ⟨k, hk, rfl, rfl⟩ := hrel
    by_cases hlt : k < N
    · have hd : decide ((k : Int) < (N : Int)) = true := decide_eq_true (by omega)
      have hd2 : decide (k < N) = true := decide_eq_true hlt
      have hc := HCELL.out k hlt
      obtain ⟨hm1, hm2⟩ := HMO.out k hlt
      have HM2 := Aside0.mk hm2
      have hN := HNN0.out
      have p1 := eq_true (show (0 : Int) ≤ (k : Int) by omega)
      have q1 := eq_true (show (k : Int) < (N : Int) by omega)
      have q2 := eq_true hlt
      have hneg : decide (((preC L k).length : Int) + ((L k).length : Int) < 0) = false := decide_eq_false (by omega)
      obtain ⟨a, ha⟩ : ∃ a, (preC L k).length = a := ⟨_, rfl⟩
      obtain ⟨b, hb⟩ : ∃ b, (L k).length = b := ⟨_, rfl⟩
      rw [ha, hb] at hm1 hneg
      rw [ha, hb] at HM2
      rw [hb] at hc
      rw [ha]
      clear hm2 ha hb
      go_wp2
      go_round
      case rel => exact ⟨k + 1, by omega, by go_num, by rw [HM2.out]; go_num⟩
      case measure => simp [intOf]; omega
    · have hd : decide ((k : Int) < (N : Int)) = false := decide_eq_false (by omega)
      have hd2 : decide (k < N) = false := decide_eq_false hlt
      obtain rfl : N = k := by omega
      have hn := HLL.out
      obtain ⟨n, hnn⟩ : ∃ n, (preC L N).length = n := ⟨_, rfl⟩
      have HNN := Aside0.mk hnn
      rw [hnn] at hn ⊢
      clear hnn
      go_wp2_with (go_at_call 42; refine (grow_calls n w (by omega)).mono ?_; rintro e w1 ⟨v6, rfl, ho, hb⟩; have HO := Aside0.mk ho; have HB := Aside0.mk hb; clear ho hb)
      clear hd hd2 hn hlt
      go_loopw [6, 27] (fun v6 v27 wr => ∃ k : Nat, k ≤ N ∧ v27 = .int .i64 k ∧ Aside0 (Own wr w.heap.size v6 (preC L k)) ∧ Aside0 (Below w.heap.size w wr)) (fun _ v27 _ => N - (intOf v27).toNat)
      case atStart => exact ⟨0, by omega, rfl, HO, HB⟩
      case round =>
        clear HO HB
        obtain ⟨k, hk, rfl, HO, HB⟩ := hrel
        by_cases hlt : k < N
        · have hd : decide ((k : Int) < (N : Int)) = true := decide_eq_true (by omega)
          have hd2 : decide (k < N) = true := decide_eq_true hlt
          have hc := (HB.out.cell (World.block_lt_of_cell? _ _ (HCELL.out k hlt))).trans (HCELL.out k hlt)
          have hC := Kd.C_below (HCC.out k hlt) HB.out
          obtain ⟨hm1, hm2⟩ := HMO.out k hlt
          have hN := HNN0.out
          have p1 := eq_true (show (0 : Int) ≤ (k : Int) by omega)
          have q1 := eq_true (show (k : Int) < (N : Int) by omega)
          have q2 := eq_true hlt
          obtain ⟨v', w', hrun, ho, hg⟩ := app_run (c := CC k) HO.out hC (by omega) HB.out.size 22
          have HO2 := Aside0.mk ho
          have HOO := Aside0.mk HO.out
          have HB2 := Aside0.mk (HB.out.grown hg HB.out.size (by intro j hj; exact own_base HOO.out j hj))
          clear ho hg hC hm1 hm2 HOO
          go_wp2_with (at_builtin; refine Lib.wpList_append_run _ rfl _ _ 22 22 rfl _ _ rfl rfl v' w' hrun ?_)
          go_roundw
          case rel => exact ⟨k + 1, by omega, by go_num, HO2, HB2⟩
          case measure => simp [intOf]; omega
        · have hd : decide ((k : Int) < (N : Int)) = false := decide_eq_false (by omega)
          have hd2 : decide (k < N) = false := decide_eq_false hlt
          obtain rfl : N = k := by omega
          go_wp2
          go_ret
          exact ⟨_, rfl, HO.out, HB.out⟩
theorem preC_take (l : List (List S38)) : ∀ k, k ≤ l.length → preC (fun j => l.getD j []) k = (l.take k).flatten
  | 0, _ => by simp [preC]
  | k + 1, h => by
    rw [preC, preC_take l k (by omega), List.take_succ_eq_append_getElem (by omega), List.flatten_append]
    simp [List.getD_eq_getElem?_getD, List.getElem?_eq_getElem (show k < l.length by omega)]
def api_Field_35.f (l0 : List (List S38)) : Option (List S38) := if 0 < l0.length ∧ l0.length ≤ 10000 ∧ l0.flatten.length ≤ 10000 then some l0.flatten else none
theorem api_Field_35.calls (A0 : Option Addr) (c0 : Nat) (l0 : List (List S38)) (r : List S38) (w : World) (hr0 : Kd.C (Kd.slice 38 k38) w A0 l0.length l0) (hc0 : l0.length ≤ c0) (h : api_Field_35.f l0 = some r) :
    Calls Try.prog 35 #[.slice A0 l0.length c0] w fun e w' => ∃ v0_ : Value, e = .returned (v0_) ∧ Kd.R k38 38 w' w.heap.size (fun _ => True) v0_ r ∧ Below w.heap.size w w' := by
  unfold api_Field_35.f at h
  by_cases hl : 0 < l0.length ∧ l0.length ≤ 10000 ∧ l0.flatten.length ≤ 10000
  case neg => rw [if_neg hl] at h; cases h
  rw [if_pos hl] at h
  obtain rfl := Option.some.inj h
  obtain ⟨ad, rfl, hall⟩ := hr0.2.2 hl.1
  have hj : ∀ j, ∃ p : Option Addr × Nat, j < l0.length → w.cell? (ad.add j) = some (.slice p.1 (l0.getD j []).length p.2) ∧ Kd.C k38 w p.1 (l0.getD j []).length (l0.getD j []) := by
    intro j
    by_cases hlt : j < l0.length
    · obtain ⟨cs, hcs, hK, hcell⟩ := hall j l0[j] (List.getElem?_eq_getElem hlt)
      obtain ⟨A, c, rfl, hlc, hC⟩ := hK
      refine ⟨(A, c), fun _ => ?_⟩
      have hg : l0.getD j [] = l0[j] := by rw [List.getD_eq_getElem?_getD, List.getElem?_eq_getElem hlt]; rfl
      rw [hg]
      have := hcell 0 _ rfl
      rw [show j * (Kd.slice 38 k38).sz + 0 = j from by show j * 1 + 0 = j; omega] at this
      exact ⟨this, hC⟩
    · exact ⟨(none, 0), fun h => absurd h hlt⟩
  obtain ⟨F, hF⟩ := Classical.axiomOfChoice hj
  have hpre : preC (fun j => l0.getD j []) l0.length = l0.flatten := by rw [preC_take l0 _ (Nat.le_refl _), List.take_length]
  have := concat_calls l0.length ad (fun j => l0.getD j []) (fun j => (F j).1) (fun j => (F j).2) w (fun j h => (hF j h).1) (fun j h => (hF j h).2) c0 (by rw [hpre]; exact hl.2.2) hl.2.1
  exact this.mono fun e w' ⟨v, he, ho, hb⟩ => ⟨v, he, by rw [← hpre]; exact ho.toR, hb⟩
end Go.Proofs.Ytdlcihbfdbdbbaa.P

/- What the program's writing of a number comes to: plain Lean. -/
namespace Go.Proofs.Ytdlcihbfdbdbbaa.Num
set_option linter.unusedVariables false
set_option linter.unusedSimpArgs false
open Go Go.RowKit Go.Proofs.Ytdlcihbfdbdbbaa.P Go.Proofs.Ytdlcihbfdbdbbaa.B Go.Proofs.YtdlcihbfdbdbbaaW.PrintWords Go.Proofs.YtdlcihbfdbdbbaaW.PrintLast Go.Proofs.YtdlcihbfdbdbbaaW.PrintMore

theorem of_loop (n c : Nat) (hn : n < 2 ^ 64) : ∀ (d k i : Nat) (xs : List Int), i + d = min c 8 → xs = (ofN i n).map (fun b => (b.toNat : Int)) ++ List.replicate (c - i) 0 → d < k →
    cursor_Of.l0 k (n : Int) xs ((min c 8 : Nat) : Int) (i : Int) = some (strN (ofN c n)) := by
  intro d
  induction d with
  | zero =>
    intro k i xs hd hx hk
    obtain ⟨k, rfl⟩ : ∃ m, k = m + 1 := ⟨k - 1, by omega⟩
    have hs : strOfNums xs = strN (ofN c n) := by
      apply strN_eq
      rw [hx]
      apply List.ext_getElem?
      intro j
      by_cases h1 : j < i
      · rw [List.getElem?_append_left (by simpa [ofN_length] using h1)]
        simp only [List.getElem?_map]
        rw [ofN_get _ _ _ h1, ofN_get _ _ _ (by omega)]
      · rw [List.getElem?_append_right (by simp [ofN_length]; omega)]
        by_cases h2 : j < c
        · simp only [List.getElem?_map]
          rw [ofN_get _ _ _ h2]
          have : n / 256 ^ j = 0 := by
            apply Nat.div_eq_of_lt
            have : 256 ^ 8 ≤ 256 ^ j := Nat.pow_le_pow_right (by decide) (by omega)
            omega
          simp only [Option.map_some, this, List.length_map, ofN_length, List.getElem?_replicate]
          rw [if_pos (by omega)]
          rfl
        · rw [List.getElem?_eq_none (by simp [ofN_length]; omega), List.getElem?_eq_none (by simp [ofN_length]; omega)]
    simp only [cursor_Of.l0]
    rw [if_neg (by omega), hs]
  | succ d ih =>
    intro k i xs hd hx hk
    obtain ⟨k, rfl⟩ : ∃ m, k = m + 1 := ⟨k - 1, by omega⟩
    have hlen : xs.length = c := by rw [hx]; simp [ofN_length]; omega
    have h8 : wrap64 (8 * (i : Int)) = ((8 * i : Nat) : Int) := by rw [wrap_id (by omega) (by omega)]; omega
    simp only [cursor_Of.l0]
    rw [if_pos (by omega), h8, if_pos (by omega), if_pos (by omega), if_pos (by omega), wrap_id (by omega) (by omega)]
    have e1 : shr .u64 (n : Int) ((8 * i : Nat) : Int) % 256 = ((n / 256 ^ i % 256 : Nat) : Int) := by
      unfold shr
      rw [Int.toNat_natCast, Nat.min_eq_left (by simp [IntKind.bits]; omega), show (256 : Nat) ^ i = 2 ^ (8 * i) by rw [Nat.pow_mul]]
      simp
    rw [e1, Int.toNat_natCast]
    refine ih k (i + 1) _ (by omega) ?_ (by omega)
    rw [hx]
    apply List.ext_getElem?
    intro j
    rw [List.getElem?_set]
    by_cases h1 : j < i
    · rw [if_neg (by omega), List.getElem?_append_left (by simpa [ofN_length] using h1), List.getElem?_append_left (by simp [ofN_length]; omega)]
      simp only [List.getElem?_map]
      rw [ofN_get _ _ _ h1, ofN_get _ _ _ (by omega)]
    · by_cases h2 : i = j
      · subst h2
        rw [if_pos rfl, if_pos (by simp [ofN_length]; omega), List.getElem?_append_left (by simp [ofN_length])]
        simp only [List.getElem?_map]
        rw [ofN_get _ _ _ (by omega)]
        simp
      · rw [if_neg h2, List.getElem?_append_right (by simp [ofN_length]; omega), List.getElem?_append_right (by simp [ofN_length]; omega)]
        simp only [List.length_map, ofN_length, List.getElem?_replicate]
        by_cases h3 : j < c
        · rw [if_pos (by omega), if_pos (by omega)]
        · rw [if_neg (by omega), if_neg (by omega)]

theorem of_eq (n : Nat) (hn : n < 2 ^ 64) (a1 : Int) (k : Nat) (hk : 64 < k) : cursor_Of.f k (n : Int) a1 = some (strN (ofI n a1)) := by
  have hm : mn (mx a1 0) 64 = ((min a1.toNat 64 : Nat) : Int) := by unfold mn mx; omega
  unfold cursor_Of.f ofI
  rw [hm, if_pos (by omega), if_pos (by omega)]
  simp only [Option.bind_some, List.length_replicate, Int.toNat_natCast]
  have hm2 : mn ((min a1.toNat 64 : Nat) : Int) 8 = ((min (min a1.toNat 64) 8 : Nat) : Int) := by unfold mn; omega
  rw [hm2]
  exact of_loop n (min a1.toNat 64) hn (min (min a1.toNat 64) 8) k 0 _ (by omega) (by simp [ofN]) (by omega)

end Go.Proofs.Ytdlcihbfdbdbbaa.Num

/- Two bytes: plain Lean. -/
namespace Go.Proofs.Ytdlcihbfdbdbbaa.Num
set_option linter.unusedVariables false
set_option linter.unusedSimpArgs false
open Go Go.RowKit Go.Proofs.Ytdlcihbfdbdbbaa.P Go.Proofs.Ytdlcihbfdbdbbaa.B Go.Proofs.YtdlcihbfdbdbbaaW.PrintWords Go.Proofs.YtdlcihbfdbdbbaaW.PrintLast Go.Proofs.YtdlcihbfdbdbbaaW.PrintMore

theorem two_eq (n : Nat) (hn : n < 2 ^ 16) (k : Nat) (hk : 64 < k) : cursor_Two.f k (n : Int) = some (strN (ofN 2 n)) := by
  unfold cursor_Two.f
  rw [u64_id (by omega) (by omega), of_eq n (by omega) 2 k hk]; rfl
end Go.Proofs.Ytdlcihbfdbdbbaa.Num

/- extra.Print: fields' bytes, by a strings.Builder: the walk. -/
namespace Go.Proofs.Ytdlcihbfdbdbbaa.P
set_option linter.unusedVariables false
set_option linter.unusedSimpArgs false
open Go Go.RowKit Go.Proofs.Ytdlcihbfdbdbbaa.B Go.Proofs.Ytdlcihbfdbdbbaa.Num Go.Proofs.Ytdlcihbfdbdbbaa.Sb Go.Proofs.YtdlcihbfdbdbbaaW.PrintWords Go.Proofs.YtdlcihbfdbdbbaaW.PrintLast Go.Proofs.YtdlcihbfdbdbbaaW.PrintMore

/-- One field's bytes. -/
def fieldB (f : S38) : List UInt8 := ofN 2 f.f0.toNat ++ ofN 2 f.f1.size ++ f.f1.data.toList
def extraGo : List S38 → List UInt8 → ByteArray × Int
  | [], acc => (strN acc, 0)
  | f :: r, acc => if 65535 < f.f1.size then (⟨#[]⟩, 5) else if 65535 < (acc ++ fieldB f).length then (⟨#[]⟩, 5) else extraGo r (acc ++ fieldB f)
def extra_Print.f (l : List S38) : Option (ByteArray × Int) := if ∀ x ∈ l, 0 ≤ x.f0 ∧ x.f0 < 65536 then some (extraGo l []) else none
theorem fieldB_len (f : S38) : (fieldB f).length = 4 + f.f1.size := by
  unfold fieldB
  rw [List.length_append, List.length_append, ofN_length, ofN_length]
  rfl
set_option maxHeartbeats 4000000 in
set_option maxRecDepth 100000 in
theorem extra_Print.calls (A0 : Option Addr) (c0 : Nat) (l0 : List S38) (r1 : ByteArray) (r2 : Int) (w : World) (hr0 : Kd.C k38 w A0 l0.length l0) (hc0 : l0.length ≤ c0) (h : extra_Print.f l0 = some (r1, r2)) :
    Calls Try.prog 10 #[.slice A0 l0.length c0] w fun e w' => e = .returned (.tuple #[.string r1, .int .i64 r2]) ∧ Below w.heap.size w w' := by
  unfold extra_Print.f at h
  split at h
  case isFalse => cases h
  case isTrue hrange =>
  have hres : extraGo l0 [] = (r1, r2) := Option.some.inj h
  clear h
  have HC := Aside0.mk hr0
  have HRES := Aside0.mk hres
  have hl63 : l0.length ≤ 9223372036854775807 := hr0.2.1
  clear hr0 hres
  have HB := Aside0.mk (below_alloc (Below.refl w.heap.size w) (.cells #[.pointer none, .slice none 0 0] 60))
  have HI := Aside0.mk (has_fresh w)
  go_enter Try.func10, Try.ntmps10
  go_wp2
  go_loopw [9] (fun v9 wr => ∃ (j : Nat) (acc : List UInt8), v9 = .int .i64 j ∧ j ≤ l0.length ∧ acc.length ≤ 65535 ∧ Aside0 (extraGo (l0.drop j) acc = (r1, r2)) ∧ Aside0 (Has w.heap.size w.heap.size acc wr) ∧ Aside0 (Below w.heap.size w wr))
    (fun v _ => l0.length - (intOf v).toNat)
  case atStart => exact ⟨0, [], rfl, by omega, by simp, HRES, HI, HB⟩
  case round =>
    clear HI HB HRES
    obtain ⟨j, acc, rfl, hj, hacc, HRES, HI, HB⟩ := hrel
    by_cases hlt : j < l0.length
    · have hd : decide (j < l0.length) = true := decide_eq_true hlt
      obtain ⟨ad, hA, hc0, hc1⟩ := at_T38 (Kd.C_below HC.out HB.out) (j : Int) (by omega) (by omega)
      subst hA
      have hg : rd_T38 l0 (j : Int) = l0[j] := by unfold rd_T38; rw [List.getD_eq_getElem?_getD, Int.toNat_natCast, List.getElem?_eq_getElem hlt]; rfl
      rw [hg] at hc0 hc1
      simp only [Int.toNat_natCast] at hc0 hc1
      obtain ⟨hx0, hx1⟩ := hrange _ (List.getElem_mem hlt)
      have hdrop : l0.drop j = l0[j] :: l0.drop (j + 1) := List.drop_eq_getElem_cons hlt
      have hres := HRES.out
      rw [hdrop] at hres
      obtain ⟨t, ht⟩ : ∃ t, l0[j] = t := ⟨_, rfl⟩
      rw [ht] at hc0 hc1 hx0 hx1 hres
      obtain ⟨f0, f1⟩ := t
      simp only at hc0 hc1 hx0 hx1 hres
      obtain ⟨x, rfl⟩ : ∃ x : Nat, f0 = (x : Int) := ⟨f0.toNat, by omega⟩
      unfold extraGo at hres
      simp only at hres
      have HR2 := Aside0.mk hres
      have HX := Aside0.mk (show x < 65536 by omega)
      clear hg ht hdrop HRES hres hx0 hx1 hrange
      go_upto_region 5 with (fail)
      have H6 := Aside0.mk (heap_alloc_new wr (.cells #[.int .u16 (x : Int), .string f1] 38))
      have HI6 := Aside0.mk (has_below HI.out (below_alloc (Below.refl wr.heap.size wr) (.cells #[.int .u16 (x : Int), .string f1] 38)))
      have HB6 := Aside0.mk (below_alloc HB.out (.cells #[.int .u16 (x : Int), .string f1] 38))
      have hg6 := (has_lt HI.out).2
      generalize hW : wr.alloc (.cells #[.int .u16 (x : Int), .string f1] 38) = wx at H6 HI6 HB6 ⊢
      obtain ⟨g6, hg⟩ : ∃ g, wr.heap.size = g := ⟨_, rfl⟩
      rw [hg] at H6 hg6 ⊢
      have hc0 := blk_cell H6.out 0
      have hc1 := blk_cell H6.out 1
      clear hW hg
      by_cases hbig : 65535 < f1.size
      · obtain ⟨rfl, rfl⟩ : (⟨#[]⟩ : ByteArray) = r1 ∧ 5 = r2 := by have hres := HR2.out; rw [if_pos hbig] at hres; simpa using hres
        clear HR2
        have hd5 : decide (65535 < f1.size) = true := decide_eq_true hbig
        go_wp2
        first | go_ret2 | go_ret
        exact ⟨rfl, HB6.out⟩
      have hd5 : decide (65535 < f1.size) = false := decide_eq_false hbig
      go_upto_region 7 with (fail)
      have HT1 := Aside0.mk (two_eq x (by have := HX.out; omega) 65 (by omega))
      have HT2 := Aside0.mk (two_eq f1.size (by omega) 65 (by omega))
      have hw : IntKind.u16.wrap ((f1.size : Nat) : Int) = ((f1.size : Nat) : Int) := by rw [u16_mod]; omega
      have s1 : (strN (ofN 2 x)).size = 2 := ofN_length 2 x
      have s2 : (strN (ofN 2 f1.size)).size = 2 := ofN_length 2 f1.size
      have hq0 := eq_true (show (strN (ofN 2 x)).size + (strN (ofN 2 f1.size)).size ≤ 9223372036854775807 by omega)
      have hq3 : (9223372036854775807 < (strN (ofN 2 x)).size + (strN (ofN 2 f1.size)).size) = False := eq_false (by omega)
      have hq1 := eq_true (show (strN (ofN 2 x)).size + (strN (ofN 2 f1.size)).size + f1.size ≤ 9223372036854775807 by omega)
      have hq2 : (9223372036854775807 < (strN (ofN 2 x)).size + (strN (ofN 2 f1.size)).size + f1.size) = False := eq_false (by omega)
      have hnew : ((strN (ofN 2 x) ++ strN (ofN 2 f1.size)) ++ f1).data.toList = fieldB ⟨(x : Int), f1⟩ := by simp [fieldB, strN]
      have HNEW := Aside0.mk hnew
      have HS3 := Aside0.mk (show ((strN (ofN 2 x) ++ strN (ofN 2 f1.size)) ++ f1).size ≤ 65539 + 4 by rw [ByteArray.size_append, ByteArray.size_append, s1, s2]; omega)
      clear hnew s1 s2
      go_region_held3 (fun W' => W'.heap[g6]? = some (.cells #[.int .u16 (x : Int), .string f1] 38 (0, 0)) ∧ W'.cell? ⟨g6, 0, none⟩ = some (.int .u16 (x : Int)) ∧ W'.cell? ⟨g6, 1, none⟩ = some (.string f1))
        (first | exact ⟨H6.out, blk_cell H6.out 0, blk_cell H6.out 1⟩ | exact ⟨H6a.out, blk_cell H6a.out 0, blk_cell H6a.out 1⟩)
        (first
          | (go_at_call 28; refine (cursor_Two.calls 65 _ _ _ HT1.out).mono ?_; rintro e w1 ⟨rfl, hb⟩; have H6a := Aside0.mk (blk_below (by exact H6.out) hb); have HI6a := Aside0.mk (has_below (by exact HI6.out) hb); have HB6a := Aside0.mk (below_step (by first | exact HB6.out | exact HB6.out.drew) hb))
          | (go_at_call 28; refine (cursor_Two.calls 65 _ _ _ HT2.out).mono ?_; rintro e w1 ⟨rfl, hb⟩; have H6 := Aside0.mk (blk_below (by exact H6a.out) hb); have HI6 := Aside0.mk (has_below (by exact HI6a.out) hb); have HB6 := Aside0.mk (below_step (by first | exact HB6a.out | exact HB6a.out.drew) hb))
          | (go_at_call 27; refine (writeK_calls w.heap.size w.heap.size acc _ _ HI6.out (by have := HS3.out; omega) (by have := HB6.out.size; exact this)).mono ?_; rintro e w2 ⟨rfl, hat, hb, ho⟩; have H6a := Aside0.mk (oth_blk ho H6.out (by omega) (by decide)); have HI7 := Aside0.mk hat; have HB7 := Aside0.mk ((by first | exact HB6.out | exact HB6.out.drew : Below w.heap.size w _).trans hb)))
      have hi7 := HI7.out
      rw [HNEW.out] at hi7
      have HI8 := Aside0.mk hi7
      have hlen := fieldB_len ⟨(x : Int), f1⟩
      obtain ⟨nw, hnw⟩ : ∃ nw, acc ++ fieldB ⟨(x : Int), f1⟩ = nw := ⟨_, rfl⟩
      have hr := HR2.out
      rw [if_neg hbig, hnw] at hr
      rw [hnw] at HI8
      clear hi7 HI7 HI6 HI6a HB6 HB6a H6 H6a HR2
      by_cases hb2 : 65535 < nw.length
      · rw [if_pos hb2] at hr
        obtain ⟨rfl, rfl⟩ : (⟨#[]⟩ : ByteArray) = r1 ∧ 5 = r2 := by simpa using hr
        clear hr
        have hd8 : decide (65535 < nw.length) = true := decide_eq_true hb2
        go_wp2_with (go_at_call 29; refine (len_calls w.heap.size w.heap.size _ _ HI8.out).mono ?_; rintro e w3 ⟨rfl, rfl⟩)
        first | go_ret2 | go_ret
        exact ⟨rfl, HB7.out⟩
      have hd8 : decide (65535 < nw.length) = false := decide_eq_false hb2
      rw [if_neg hb2] at hr
      have HR3 := Aside0.mk hr
      clear hr
      go_wp2_with (go_at_call 29; refine (len_calls w.heap.size w.heap.size _ _ HI8.out).mono ?_; rintro e w3 ⟨rfl, rfl⟩)
      go_roundw
      case rel => exact ⟨j + 1, nw, by go_num, by omega, by omega, HR3, HI8, HB7⟩
      case measure => simp [intOf]; omega
    · have hd : decide (j < l0.length) = false := decide_eq_false hlt
      obtain rfl : j = l0.length := by omega
      have hr := HRES.out
      rw [List.drop_length] at hr
      obtain ⟨rfl, rfl⟩ : strN acc = r1 ∧ 0 = r2 := by simpa [extraGo] using hr
      clear hr HRES
      go_wp2_with (go_at_call 30; refine (stringK_calls w.heap.size w.heap.size _ _ HI.out (by have := HB.out.size; exact this)).mono ?_; rintro e w2 ⟨rfl, hat, hb, ho⟩; have HB2 := Aside0.mk (HB.out.trans hb); clear hb)
      first | go_ret2 | go_ret
      exact ⟨rfl, HB2.out⟩
end Go.Proofs.Ytdlcihbfdbdbbaa.P

/- A map of the call's own from keys to plain values, told as a function: read, and stored into. -/
namespace Go.Proofs.Ytdlcihbfdbdbbaa.MapV
set_option linter.unusedVariables false
set_option linter.unusedSimpArgs false
set_option linter.unusedSectionVars false
open Go Go.RowKit Go.MapKept Go.ChangeMaps Go.Maps Go.Proofs.YtdlcihbfdbdbbaaW.PrintWords Go.Proofs.YtdlcihbfdbdbbaaW.PrintLast Go.Proofs.YtdlcihbfdbdbbaaW.PrintMore
section
variable {P : Program} {κ : Type} [DecidableEq κ] {enc : κ → Value} {k : TypeId}

/-- What a map tells behind a store. -/
def upd (g : κ → Option Value) (a : κ) (v : Value) : κ → Option Value := fun c => if c = a then some v else g c
/-- Block b of w is a map that tells g. -/
def OwnsV (enc : κ → Value) (w : World) (b : Nat) (g : κ → Option Value) : Prop :=
  ∃ es clock, w.heap[b]? = some (.map es clock) ∧ (∀ x ∈ es.toList, ∃ a, x.key = enc a) ∧ (es.toList.map (·.key)).Nodup ∧ (∀ a v, g a = some v ↔ ∃ x ∈ es.toList, x.key = enc a ∧ x.val = v) ∧ (∀ x ∈ es.toList, x.born < clock) ∧ (es.toList.map (·.born)).Nodup

theorem made (w : World) : OwnsV enc (w.alloc (.map #[] 0)) w.heap.size (fun _ => none) :=
  ⟨#[], 0, (heap_alloc w _).1, by simp, by simp, by simp, by simp, by simp⟩
theorem OwnsV.lt {w : World} {b : Nat} {g : κ → Option Value} (h : OwnsV enc w b g) : b < w.heap.size := by
  obtain ⟨es, clock, hm, _⟩ := h
  exact (Array.getElem?_eq_some_iff.1 hm).1
theorem OwnsV.move {w w1 : World} {b : Nat} {g : κ → Option Value} (h : OwnsV enc w b g) (hb : w1.heap[b]? = w.heap[b]?) : OwnsV enc w1 b g := by
  obtain ⟨es, clock, hm, h1, h2, h3, h4, h5⟩ := h
  exact ⟨es, clock, hb.trans hm, h1, h2, h3, h4, h5⟩
theorem OwnsV.grown {w w1 : World} {b : Nat} {g : κ → Option Value} {row : Option Nat} (h : OwnsV enc w b g) (hg : w.grownBy w1 row) (hb : some b ≠ row) : OwnsV enc w1 b g := h.move (hg.block b h.lt hb)
theorem OwnsV.below {w w1 : World} {b : Nat} {g : κ → Option Value} (h : OwnsV enc w b g) (hb : Below w.heap.size w w1) : OwnsV enc w1 b g := h.move (hb.block b h.lt)
theorem grown_block {w : World} {b : Nat} {es es' : Array MapEntry} {c c' : Nat} (hb : w.heap[b]? = some (.map es c)) : w.grownBy (setBlock w b (.map es' c')) (some b) :=
  ⟨rfl, rfl, rfl, by simp [setBlock], fun i _ hne => heap_setBlock_other hb _ (fun e => hne (by rw [e]))⟩
theorem push_lt {es : Array MapEntry} {clock : Nat} (h4 : ∀ x ∈ es.toList, x.born < clock) (u v : Value) : ∀ x ∈ (es.push ⟨u, v, clock⟩).toList, x.born < clock + 1 := by
  intro x hx
  rw [Array.toList_push] at hx
  rcases List.mem_append.1 hx with hx | hx
  · have := h4 x hx; omega
  · rw [List.mem_singleton.1 hx]; simp
theorem push_nd {es : Array MapEntry} {clock : Nat} (h4 : ∀ x ∈ es.toList, x.born < clock) (h5 : (es.toList.map (·.born)).Nodup) (u v : Value) : ((es.push ⟨u, v, clock⟩).toList.map (·.born)).Nodup := by
  rw [Array.toList_push, List.map_append]
  refine List.nodup_append.2 ⟨h5, by simp, fun q hq c hc e1 => ?_⟩
  simp only [List.map_cons, List.map_nil, List.mem_singleton] at hc
  obtain ⟨x, hx, rfl⟩ := List.mem_map.1 hq
  have := h4 x hx
  omega
section
variable {t E : TypeId} {w : World} {b : Nat} {g : κ → Option Value}
theorem find_key (K : Keyed P k) (hkey : ∀ a : κ, ∃ l, keyOf P k (enc a) = some l) {es : Array MapEntry} (h1 : ∀ x ∈ es.toList, ∃ a, x.key = enc a) (a : κ) :
    ((Instr.findKey k (enc a) es.toList).run P w = .ok none w ∧ ∀ e ∈ es.toList, e.key ≠ enc a) ∨ ∃ j e, (Instr.findKey k (enc a) es.toList).run P w = .ok (some (j, e.val)) w ∧ es.toList[j]? = some e ∧ e.key = enc a := by
  obtain ⟨kl, hkl⟩ := hkey a
  refine K.find w hkl es.toList (fun e he => ?_)
  obtain ⟨c, hc⟩ := h1 e he
  rw [hc]
  exact hkey c
/-- m[a], with or without 'ok'. -/
theorem lookup_run (K : Keyed P k) (ht : P.underlying t = some (.map k E)) {z : Value} (hz : ∀ u : World, (zeroValue E).run P u = .ok z u) (hinj : ∀ a c : κ, enc a = enc c → a = c) (hkey : ∀ a : κ, ∃ l, keyOf P k (enc a) = some l)
    (h : OwnsV enc w b g) (a : κ) (ok : Bool) : (Instr.lookup t (.map (some b)) (enc a) ok).run P w = .ok (if ok then .tuple #[(g a).getD z, .bool (g a).isSome] else (g a).getD z) w := by
  obtain ⟨es, clock, hm, h1, h2, h3, h4, h5⟩ := h
  obtain ⟨kl, hkl⟩ := hkey a
  rcases find_key (w := w) K hkey h1 a with ⟨hf, hno⟩ | ⟨j, e0, hf, hj, he⟩
  · have hg : g a = none := by
      cases hga : g a with
      | none => rfl
      | some v => obtain ⟨x, hx, hxk, _⟩ := (h3 a v).1 hga; exact absurd hxk (hno x hx)
    rw [hg]
    simp [Instr.lookup, run_underlying ht, MapKept.run_getObj_map hm, K.check w _ hkl, hf, hz, Result.andThen]
  · have hg : g a = some e0.val := (h3 a _).2 ⟨e0, List.mem_of_getElem? hj, he, rfl⟩
    rw [hg]
    simp [Instr.lookup, run_underlying ht, MapKept.run_getObj_map hm, K.check w _ hkl, hf, Result.andThen]
theorem owns_push {es : Array MapEntry} {clock : Nat} {a : κ} (hinj : ∀ a c : κ, enc a = enc c → a = c) (hm : w.heap[b]? = some (.map es clock)) (h1 : ∀ x ∈ es.toList, ∃ a, x.key = enc a) (h2 : (es.toList.map (·.key)).Nodup)
    (h3 : ∀ a v, g a = some v ↔ ∃ x ∈ es.toList, x.key = enc a ∧ x.val = v) (h4 : ∀ x ∈ es.toList, x.born < clock) (h5 : (es.toList.map (·.born)).Nodup) (hno : ∀ e ∈ es.toList, e.key ≠ enc a) (v : Value) :
    OwnsV enc (setBlock w b (.map (es.push ⟨enc a, v, clock⟩) (clock + 1))) b (upd g a v) := by
  refine ⟨_, _, heap_setBlock_same hm _, ?_, ?_, ?_, ?_, ?_⟩
  · intro x hx
    rw [Array.toList_push] at hx
    rcases List.mem_append.1 hx with hx | hx
    · exact h1 x hx
    · rw [List.mem_singleton.1 hx]; exact ⟨a, rfl⟩
  · rw [Array.toList_push, List.map_append]
    refine List.nodup_append.2 ⟨h2, by simp, fun q hq c hc e1 => ?_⟩
    simp only [List.map_cons, List.map_nil, List.mem_singleton] at hc
    obtain ⟨x, hx, rfl⟩ := List.mem_map.1 hq
    exact hno x hx (e1.trans hc)
  · intro c u
    unfold upd
    rw [Array.toList_push]
    by_cases hc : c = a
    · rw [if_pos hc]
      constructor
      · intro e; injection e with e; exact ⟨⟨enc a, v, clock⟩, by simp, by rw [hc], e⟩
      · rintro ⟨x, hx, hxk, rfl⟩
        rcases List.mem_append.1 hx with hx | hx
        · exact absurd (hxk.trans (by rw [hc])) (hno x hx)
        · rw [List.mem_singleton.1 hx]
    · rw [if_neg hc, h3 c u]
      constructor
      · rintro ⟨x, hx, hxk, hv⟩; exact ⟨x, List.mem_append_left _ hx, hxk, hv⟩
      · rintro ⟨x, hx, hxk, hv⟩
        rcases List.mem_append.1 hx with hx | hx
        · exact ⟨x, hx, hxk, hv⟩
        · rw [List.mem_singleton.1 hx] at hxk; exact absurd (hinj _ _ hxk).symm hc
  · exact push_lt h4 _ _
  · exact push_nd h4 h5 _ _
/-- m[a] = v. -/
theorem update_run (K : Keyed P k) (ht : P.underlying t = some (.map k E)) (hinj : ∀ a c : κ, enc a = enc c → a = c) (hkey : ∀ a : κ, ∃ l, keyOf P k (enc a) = some l)
    (h : OwnsV enc w b g) (a : κ) (v : Value) : ∃ w1, (Instr.mapUpdate t (.map (some b)) (enc a) v).run P w = .ok () w1 ∧ OwnsV enc w1 b (upd g a v) ∧ w.grownBy w1 (some b) := by
  obtain ⟨es, clock, hm, h1, h2, h3, h4, h5⟩ := h
  obtain ⟨kl, hkl⟩ := hkey a
  rcases find_key (w := w) K hkey h1 a with ⟨hf, hno⟩ | ⟨j, e0, hf, hj, he⟩
  · refine ⟨setBlock w b (.map (es.push ⟨enc a, v, clock⟩) (clock + 1)), ?_, owns_push hinj hm h1 h2 h3 h4 h5 hno v, grown_block hm⟩
    simp [Instr.mapUpdate, run_underlying ht, MapKept.run_getObj_map hm, K.check w false hkl, hf, MapKept.run_setObj_map _ hm, Result.andThen, setBlock]
  · have hj' : es[j]? = some e0 := by simpa using hj
    have hjl : j < es.toList.length := (List.getElem?_eq_some_iff.1 hj).1
    have htl : (es.modify j (fun e => { e with key := enc a, val := v })).toList = es.toList.set j { e0 with key := enc a, val := v } := by rw [Array.toList_modify, modify_eq_set _ _ _ _ hj]
    have hset : ∀ i x, (es.toList.set j { e0 with key := enc a, val := v })[i]? = some x → (i = j ∧ x = { e0 with key := enc a, val := v }) ∨ (i ≠ j ∧ es.toList[i]? = some x) := by
      intro i x hx
      rw [List.getElem?_set] at hx
      by_cases h : j = i
      · rw [if_pos h, if_pos hjl] at hx
        exact .inl ⟨h.symm, (Option.some.inj hx).symm⟩
      · rw [if_neg h] at hx
        exact .inr ⟨fun e => h e.symm, hx⟩
    have huniq : ∀ i x, es.toList[i]? = some x → x.key = enc a → i = j := by
      intro i x hx hk
      have e1 : (es.toList.map (·.key))[i]? = some (enc a) := by rw [List.getElem?_map, hx]; simp [hk]
      have e2 : (es.toList.map (·.key))[j]? = some (enc a) := by rw [List.getElem?_map, hj]; simp [he]
      exact (List.getElem?_inj (by rw [List.length_map]; exact (List.getElem?_eq_some_iff.1 hx).1) h2).1 (e1.trans e2.symm)
    refine ⟨setBlock w b (.map (es.modify j (fun e => { e with key := enc a, val := v })) clock), ?_, ⟨_, _, heap_setBlock_same hm _, ?_, ?_, ?_, ?_, ?_⟩, grown_block hm⟩
    · simp [Instr.mapUpdate, run_underlying ht, MapKept.run_getObj_map hm, K.check w false hkl, hf, hj', he, K.stays w hkl, MapKept.run_setObj_map _ hm, Result.andThen, setBlock]
    · rw [htl]
      intro x hx
      obtain ⟨i, hi⟩ := List.getElem?_of_mem hx
      rcases hset i x hi with ⟨_, rfl⟩ | ⟨_, h⟩
      · exact ⟨a, rfl⟩
      · exact h1 x (List.mem_of_getElem? h)
    · rw [htl]
      have : (es.toList.set j { e0 with key := enc a, val := v }).map (·.key) = es.toList.map (·.key) := by
        apply List.ext_getElem?
        intro i
        rw [List.getElem?_map, List.getElem?_map, List.getElem?_set]
        by_cases h : j = i
        · subst h
          rw [if_pos rfl, if_pos hjl, hj]
          simp [he]
        · rw [if_neg h]
      rw [this]
      exact h2
    · intro c u
      unfold upd
      rw [htl]
      by_cases hc : c = a
      · rw [if_pos hc]
        constructor
        · intro e
          injection e with e
          refine ⟨{ e0 with key := enc a, val := v }, ?_, by rw [hc], e⟩
          exact List.mem_of_getElem? (i := j) (by rw [List.getElem?_set, if_pos rfl, if_pos hjl])
        · rintro ⟨x, hx, hxk, rfl⟩
          obtain ⟨i, hi⟩ := List.getElem?_of_mem hx
          rcases hset i x hi with ⟨_, rfl⟩ | ⟨hij, h⟩
          · rfl
          · exact absurd (huniq i x h (hxk.trans (by rw [hc]))) hij
      · rw [if_neg hc, h3 c u]
        constructor
        · rintro ⟨x, hx, hxk, hv⟩
          obtain ⟨i, hi⟩ := List.getElem?_of_mem hx
          refine ⟨x, List.mem_of_getElem? (i := i) ?_, hxk, hv⟩
          rw [List.getElem?_set]
          by_cases h : j = i
          · subst h
            rw [hj] at hi
            injection hi with hi
            rw [← hi, he] at hxk
            exact absurd (hinj _ _ hxk).symm hc
          · rw [if_neg h]; exact hi
        · rintro ⟨x, hx, hxk, hv⟩
          obtain ⟨i, hi⟩ := List.getElem?_of_mem hx
          rcases hset i x hi with ⟨_, rfl⟩ | ⟨hij, h⟩
          · exact absurd (hinj _ _ hxk).symm hc
          · exact ⟨x, List.mem_of_getElem? h, hxk, hv⟩
    · rw [htl]
      intro x hx
      obtain ⟨i, hi⟩ := List.getElem?_of_mem hx
      rcases hset i x hi with ⟨_, rfl⟩ | ⟨_, h⟩
      · exact h4 e0 (List.mem_of_getElem? hj)
      · exact h4 x (List.mem_of_getElem? h)
    · rw [htl]
      have : (es.toList.set j { e0 with key := enc a, val := v }).map (·.born) = es.toList.map (·.born) := by
        apply List.ext_getElem?
        intro i
        rw [List.getElem?_map, List.getElem?_map, List.getElem?_set]
        by_cases h : j = i
        · subst h
          rw [if_pos rfl, if_pos hjl, hj]
          simp
        · rw [if_neg h]
      rw [this]
      exact h5
/-- The way back from an entry to the store behind. -/
def BackV (P : Program) (enc : κ → Value) (t : TypeId) (b : Nat) (g : κ → Option Value) (a : κ) (w1 : World) (st : Nat) : Prop :=
  ∀ (w2 : World) (v : Value), w2.heap[b]? = w1.heap[b]? → ∃ w3, (Instr.entryStore t (.map (some b)) (goInt st) v).run P w2 = .ok () w3 ∧ OwnsV enc w3 b (upd g a v) ∧ w2.grownBy w3 (some b)
theorem store_back {es : Array MapEntry} {clock j : Nat} {e1 : MapEntry} {a : κ} (hinj : ∀ a c : κ, enc a = enc c → a = c) {w1 : World} (hm : w1.heap[b]? = some (.map es clock)) (h1 : ∀ x ∈ es.toList, ∃ a, x.key = enc a) (h2 : (es.toList.map (·.key)).Nodup) {g : κ → Option Value}
    (h3 : ∀ c v, c ≠ a → (g c = some v ↔ ∃ x ∈ es.toList, x.key = enc c ∧ x.val = v)) (h4 : ∀ x ∈ es.toList, x.born < clock) (h5 : (es.toList.map (·.born)).Nodup) (hj : es.toList[j]? = some e1) (he : e1.key = enc a) : BackV P enc t b g a w1 e1.born := by
  intro w2 v hb
  have hw2 : w2.heap[b]? = some (.map es clock) := hb.trans hm
  have hi : es.findIdx? (fun e => ((e.born : Nat) : Int) == ((e1.born : Nat) : Int)) = some j := by
    rw [Go.WideElems.findIdx_arr]
    exact Go.WideElems.findIdx_born h5 hj
  have htl : (es.modify j (fun e => { e with val := v })).toList = es.toList.set j { e1 with val := v } := by rw [Array.toList_modify, modify_eq_set _ _ _ _ hj]
  have hjl : j < es.toList.length := (List.getElem?_eq_some_iff.1 hj).1
  have hset : ∀ i x, (es.toList.set j { e1 with val := v })[i]? = some x → (i = j ∧ x = { e1 with val := v }) ∨ (i ≠ j ∧ es.toList[i]? = some x) := by
    intro i x hx
    rw [List.getElem?_set] at hx
    by_cases h : j = i
    · rw [if_pos h, if_pos hjl] at hx
      exact .inl ⟨h.symm, (Option.some.inj hx).symm⟩
    · rw [if_neg h] at hx
      exact .inr ⟨fun e => h e.symm, hx⟩
  have hmap : ∀ {β : Type} (f : MapEntry → β), f { e1 with val := v } = f e1 → (es.toList.set j { e1 with val := v }).map f = es.toList.map f := by
    intro β f hf
    apply List.ext_getElem?
    intro i
    rw [List.getElem?_map, List.getElem?_map, List.getElem?_set]
    by_cases h : j = i
    · subst h
      rw [if_pos rfl, if_pos hjl, hj]
      simp [hf]
    · rw [if_neg h]
  have huniq : ∀ i x, es.toList[i]? = some x → x.key = enc a → i = j := by
    intro i x hx hk
    have q1 : (es.toList.map (·.key))[i]? = some (enc a) := by rw [List.getElem?_map, hx]; simp [hk]
    have q2 : (es.toList.map (·.key))[j]? = some (enc a) := by rw [List.getElem?_map, hj]; simp [he]
    exact (List.getElem?_inj (by rw [List.length_map]; exact (List.getElem?_eq_some_iff.1 hx).1) h2).1 (q1.trans q2.symm)
  refine ⟨setBlock w2 b (.map (es.modify j (fun e => { e with val := v })) clock), ?_, ⟨_, _, heap_setBlock_same hw2 _, ?_, ?_, ?_, ?_, ?_⟩, grown_block hw2⟩
  · simp [Instr.entryStore, MapKept.run_getObj_map hw2, asInt, asIntOf, goInt, hi, MapKept.run_setObj_map _ hw2, Result.andThen, setBlock]
  · rw [htl]
    intro x hx
    obtain ⟨i, hi⟩ := List.getElem?_of_mem hx
    rcases hset i x hi with ⟨_, rfl⟩ | ⟨_, h⟩
    · exact ⟨a, he⟩
    · exact h1 x (List.mem_of_getElem? h)
  · rw [htl, hmap _ rfl]; exact h2
  · intro c u
    unfold upd
    rw [htl]
    by_cases hc : c = a
    · rw [if_pos hc]
      constructor
      · intro e
        injection e with e
        exact ⟨{ e1 with val := v }, List.mem_of_getElem? (i := j) (by rw [List.getElem?_set, if_pos rfl, if_pos hjl]), by rw [hc]; exact he, e⟩
      · rintro ⟨x, hx, hxk, rfl⟩
        obtain ⟨i, hi⟩ := List.getElem?_of_mem hx
        rcases hset i x hi with ⟨_, rfl⟩ | ⟨hij, h⟩
        · rfl
        · exact absurd (huniq i x h (hxk.trans (by rw [hc]))) hij
    · rw [if_neg hc, h3 c u hc]
      constructor
      · rintro ⟨x, hx, hxk, hv⟩
        obtain ⟨i, hi⟩ := List.getElem?_of_mem hx
        refine ⟨x, List.mem_of_getElem? (i := i) ?_, hxk, hv⟩
        rw [List.getElem?_set]
        by_cases h : j = i
        · subst h
          rw [hj] at hi
          injection hi with hi
          rw [← hi, he] at hxk
          exact absurd (hinj _ _ hxk).symm hc
        · rw [if_neg h]; exact hi
      · rintro ⟨x, hx, hxk, hv⟩
        obtain ⟨i, hi⟩ := List.getElem?_of_mem hx
        rcases hset i x hi with ⟨_, rfl⟩ | ⟨hij, h⟩
        · exact absurd (hinj _ _ (he.symm.trans hxk)).symm hc
        · exact ⟨x, List.mem_of_getElem? h, hxk, hv⟩
  · rw [htl]
    intro x hx
    obtain ⟨i, hi⟩ := List.getElem?_of_mem hx
    rcases hset i x hi with ⟨_, rfl⟩ | ⟨_, h⟩
    · exact h4 e1 (List.mem_of_getElem? hj)
    · exact h4 x (List.mem_of_getElem? h)
  · rw [htl, hmap _ rfl]; exact h5
/-- m[a] op= ..: the entry, and the store behind. -/
theorem entry_run (K : Keyed P k) (ht : P.underlying t = some (.map k E)) {z : Value} (hz : ∀ u : World, (zeroValue E).run P u = .ok z u) (hinj : ∀ a c : κ, enc a = enc c → a = c) (hkey : ∀ a : κ, ∃ l, keyOf P k (enc a) = some l)
    (h : OwnsV enc w b g) (a : κ) : ∃ (v0 : Value) (st : Nat) (w1 : World) (g1 : κ → Option Value), (Instr.mapEntry t (.map (some b)) (enc a)).run P w = .ok (.tuple #[v0, goInt st]) w1 ∧ w.grownBy w1 (some b) ∧ BackV P enc t b g a w1 st ∧ OwnsV enc w1 b g1 ∧ ∀ c, (g1 c).getD z = (g c).getD z := by
  obtain ⟨es, clock, hm, h1, h2, h3, h4, h5⟩ := h
  obtain ⟨kl, hkl⟩ := hkey a
  rcases find_key (w := w) K hkey h1 a with ⟨hf, hno⟩ | ⟨j, e0, hf, hj, he⟩
  · have hga : g a = none := by
      cases hga : g a with
      | none => rfl
      | some v => obtain ⟨x, hx, hxk, _⟩ := (h3 a v).1 hga; exact absurd hxk (hno x hx)
    refine ⟨z, clock, setBlock w b (.map (es.push ⟨enc a, z, clock⟩) (clock + 1)), upd g a z, ?_, grown_block hm, ?_, owns_push hinj hm h1 h2 h3 h4 h5 hno z, fun c => by unfold upd; by_cases q : c = a; (rw [if_pos q, q, hga]; rfl); rw [if_neg q]⟩
    · simp [Instr.mapEntry, run_underlying ht, MapKept.run_getObj_map hm, K.check w false hkl, hf, hz, MapKept.run_setObj_map _ hm, Result.andThen, setBlock]
    · refine store_back (e1 := ⟨enc a, z, clock⟩) (j := es.toList.length) hinj (heap_setBlock_same hm _) ?_ ?_ ?_ (push_lt h4 _ _) (push_nd h4 h5 _ _) (by rw [Array.toList_push, List.getElem?_append_right (Nat.le_refl _)]; simp) rfl
      · intro x hx
        rw [Array.toList_push] at hx
        rcases List.mem_append.1 hx with hx | hx
        · exact h1 x hx
        · rw [List.mem_singleton.1 hx]; exact ⟨a, rfl⟩
      · rw [Array.toList_push, List.map_append]
        refine List.nodup_append.2 ⟨h2, by simp, fun q hq c hc e1 => ?_⟩
        simp only [List.map_cons, List.map_nil, List.mem_singleton] at hc
        obtain ⟨x, hx, rfl⟩ := List.mem_map.1 hq
        exact hno x hx (e1.trans hc)
      · intro c u hc
        rw [h3 c u, Array.toList_push]
        constructor
        · rintro ⟨x, hx, hxk, hv⟩; exact ⟨x, List.mem_append_left _ hx, hxk, hv⟩
        · rintro ⟨x, hx, hxk, hv⟩
          rcases List.mem_append.1 hx with hx | hx
          · exact ⟨x, hx, hxk, hv⟩
          · rw [List.mem_singleton.1 hx] at hxk; exact absurd (hinj _ _ hxk).symm hc
  · have hj' : es[j]? = some e0 := by simpa using hj
    have hsame : es.modify j (fun e => { e with key := enc a }) = es := by
      apply Array.ext'
      rw [Array.toList_modify, modify_eq_set _ _ _ _ hj]
      have : ({ e0 with key := enc a } : MapEntry) = e0 := by rw [← he]
      rw [this]
      exact Go.WideElems.set_self _ _ _ hj
    refine ⟨e0.val, e0.born, setBlock w b (.map es clock), g, ?_, grown_block hm, ?_, ⟨es, clock, heap_setBlock_same hm _, h1, h2, h3, h4, h5⟩, fun c => rfl⟩
    · simp [Instr.mapEntry, run_underlying ht, MapKept.run_getObj_map hm, K.check w false hkl, hf, hj', he, K.stays w hkl, hsame, MapKept.run_setObj_map _ hm, Result.andThen, setBlock]
    · exact store_back hinj (heap_setBlock_same hm _) h1 h2 (fun c u _ => h3 c u) h4 h5 hj he
end
end
section
variable {P : Program} {κ : Type} [DecidableEq κ] {enc : κ → Value} {k : TypeId} {ops : Array Oper} {rest : List Oper} {o : Oper} {a : Act} {Q : Exit → Act → World → Prop}
theorem wpList_look {W : World} (hgd : o.guard = none) (m x : Operand) (t : TypeId) (ok : Bool) (ho : o.op = .lookup t m x ok) {E : TypeId} {b : Nat} {g : κ → Option Value} (K : Go.Maps.Keyed P k) (ht : P.underlying t = some (.map k E)) {z : Value} (hz : ∀ u : World, (zeroValue E).run P u = .ok z u)
    (hinj : ∀ a c : κ, enc a = enc c → a = c) (hkey : ∀ a : κ, ∃ l, keyOf P k (enc a) = some l) (h : OwnsV enc W b g) (c : κ) (hm : a.eval m = .map (some b)) (hx : a.eval x = enc c)
    (hK : wpList P ops Q rest (a.put o.dst (if ok then .tuple #[(g c).getD z, .bool (g c).isSome] else (g c).getD z)) W) :
    wpList P ops Q (o :: rest) a W := by
  refine wpList_plain hgd fun K' hK' => ?_
  have hrun := lookup_run K ht hz hinj hkey h c ok
  generalize (if ok then Value.tuple #[(g c).getD z, .bool (g c).isSome] else (g c).getD z) = r at hrun hK
  unfold Oper.wp
  simp [execOp, ho, hm, hx, hrun, Result.andThen]
  exact hK' _ _ hK
theorem wpList_ent {W : World} (hgd : o.guard = none) (m x : Operand) (t : TypeId) (ho : o.op = .mapEntry t m x) {E : TypeId} {b : Nat} {g : κ → Option Value} (K : Go.Maps.Keyed P k) (ht : P.underlying t = some (.map k E)) {z : Value} (hz : ∀ u : World, (zeroValue E).run P u = .ok z u)
    (hinj : ∀ a c : κ, enc a = enc c → a = c) (hkey : ∀ a : κ, ∃ l, keyOf P k (enc a) = some l) (h : OwnsV enc W b g) (c : κ) (hm : a.eval m = .map (some b)) (hx : a.eval x = enc c)
    (hK : ∀ (v0 : Value) (st : Nat) (w1 : World) (g1 : κ → Option Value), W.grownBy w1 (some b) → BackV P enc t b g c w1 st → OwnsV enc w1 b g1 → (∀ c, (g1 c).getD z = (g c).getD z) → wpList P ops Q rest (a.put o.dst (.tuple #[v0, .int .i64 (st : Int)])) w1) :
    wpList P ops Q (o :: rest) a W := by
  refine wpList_plain hgd fun K' hK' => ?_
  obtain ⟨v0, st, w1, g1, hrun, hg, hback, hown, hsame⟩ := entry_run K ht hz hinj hkey h c
  unfold Oper.wp
  simp [execOp, ho, hm, hx, hrun, Result.andThen]
  exact hK' _ _ (hK v0 st w1 g1 hg hback hown hsame)
theorem wpList_sto {W : World} (hgd : o.guard = none) (m x v : Operand) (t : TypeId) (ho : o.op = .entryStore t m x v) {b : Nat} {g : κ → Option Value} {c : κ} {w1 : World} {u : Value} {st : Nat}
    (hback : BackV P enc t b g c w1 st) (hm : a.eval m = .map (some b)) (hx : a.eval x = .int .i64 (st : Int)) (hv : a.eval v = u) (hb : W.heap[b]? = w1.heap[b]?)
    (hK : ∀ w3, OwnsV enc w3 b (upd g c u) → W.grownBy w3 (some b) → wpList P ops Q rest (a.put o.dst undef) w3) : wpList P ops Q (o :: rest) a W := by
  refine wpList_plain hgd fun K' hK' => ?_
  obtain ⟨w3, hrun, h1, h2⟩ := hback W u hb
  rw [show goInt (st : Int) = .int .i64 (st : Int) from rfl] at hrun
  unfold Oper.wp
  simp [execOp, ho, hm, hx, hv, hrun, Result.andThen]
  exact hK' _ _ (hK w3 h1 h2)
theorem wpList_upd {W : World} (hgd : o.guard = none) (m x v : Operand) (t : TypeId) (ho : o.op = .mapUpdate t m x v) {E : TypeId} {b : Nat} {g : κ → Option Value} (K : Go.Maps.Keyed P k) (ht : P.underlying t = some (.map k E))
    (hinj : ∀ a c : κ, enc a = enc c → a = c) (hkey : ∀ a : κ, ∃ l, keyOf P k (enc a) = some l) (h : OwnsV enc W b g) (c : κ) (u : Value) (hm : a.eval m = .map (some b)) (hx : a.eval x = enc c) (hv : a.eval v = u)
    (hK : ∀ w1, OwnsV enc w1 b (upd g c u) → W.grownBy w1 (some b) → wpList P ops Q rest (a.put o.dst undef) w1) : wpList P ops Q (o :: rest) a W := by
  refine wpList_plain hgd fun K' hK' => ?_
  obtain ⟨w1, hrun, h1, h2⟩ := update_run K ht hinj hkey h c u
  unfold Oper.wp
  simp [execOp, ho, hm, hx, hv, hrun, Result.andThen]
  exact hK' _ _ (hK w1 h1 h2)
end
end Go.Proofs.Ytdlcihbfdbdbbaa.MapV

/- extra.Twice: the first ID that comes again, by a map, in the printer's form: the walk. -/
namespace Go.Proofs.Ytdlcihbfdbdbbaa.P
set_option linter.unusedVariables false
set_option linter.unusedSimpArgs false
open Go Go.RowKit Go.Maps Go.Proofs.Ytdlcihbfdbdbbaa.MapV Go.Proofs.YtdlcihbfdbdbbaaW.PrintWords Go.Proofs.YtdlcihbfdbdbbaaW.PrintLast Go.Proofs.YtdlcihbfdbdbbaaW.PrintMore
/-- An ID that comes again, behind those seen. -/
def twG : List Int → List S38 → Int × Bool
  | _, [] => (0, false)
  | seen, x :: xs => if x.f0 ∈ seen then (x.f0, true) else twG (seen ++ [x.f0]) xs
def enc16 (a : Fin 65536) : Value := .int .u16 ((a.val : Nat) : Int)
theorem enc16_inj (a c : Fin 65536) (h : enc16 a = enc16 c) : a = c := by
  unfold enc16 at h
  injection h with _ h
  exact Fin.ext (by omega)
theorem enc16_key (a : Fin 65536) : ∃ l, keyOf Try.prog 36 (enc16 a) = some l :=
  ⟨_, keyOf_int_mk Try.underlying36 (by
    have h := a.isLt
    have h1 : decide (IntKind.u16.min ≤ ((a.val : Nat) : Int)) = true := decide_eq_true (show (0 : Int) ≤ _ by omega)
    have h2 : decide (((a.val : Nat) : Int) ≤ IntKind.u16.max) = true := decide_eq_true (show _ ≤ (65535 : Int) by omega)
    show (decide (IntKind.u16.min ≤ ((a.val : Nat) : Int)) && decide (((a.val : Nat) : Int) ≤ IntKind.u16.max)) = true
    rw [h1, h2]; rfl)⟩
def seenG (s : List Int) : Fin 65536 → Option Value := fun c => if ((c.val : Nat) : Int) ∈ s then some (.bool true) else none
theorem seenG_upd (s : List Int) (c : Fin 65536) : upd (seenG s) c (.bool true) = seenG (s ++ [((c.val : Nat) : Int)]) := by
  funext d
  unfold upd seenG
  by_cases h : d = c
  · subst h; simp
  · have h2 : ¬ ((d.val : Nat) : Int) = ((c.val : Nat) : Int) := fun e => h (Fin.ext (by omega))
    rw [if_neg h]
    simp only [List.mem_append, List.mem_singleton, h2, or_false]
theorem zeroB (u : World) : (zeroValue 4).run Try.prog u = .ok (.bool false) u := by kernel_rfl
theorem look16 {w : World} {b : Nat} {s : List Int} (h : OwnsV enc16 w b (seenG s)) (c : Fin 65536) : (Instr.lookup 69 (.map (some b)) (enc16 c) false).run Try.prog w = .ok (.bool (decide (((c.val : Nat) : Int) ∈ s))) w := by
  rw [lookup_run (int_keyed Try.underlying36) Try.underlying69 zeroB enc16_inj enc16_key h c false]
  unfold seenG
  by_cases hc : ((c.val : Nat) : Int) ∈ s
  · simp [hc]
  · simp [hc]
theorem upd16 {w : World} {b : Nat} {s : List Int} (h : OwnsV enc16 w b (seenG s)) (c : Fin 65536) : ∃ w1, (Instr.mapUpdate 69 (.map (some b)) (enc16 c) (.bool true)).run Try.prog w = .ok () w1 ∧ OwnsV enc16 w1 b (seenG (s ++ [((c.val : Nat) : Int)])) ∧ w.grownBy w1 (some b) := by
  obtain ⟨w1, h1, h2, h3⟩ := update_run (int_keyed Try.underlying36) Try.underlying69 enc16_inj enc16_key h c (.bool true)
  rw [seenG_upd] at h2
  exact ⟨w1, h1, h2, h3⟩
def extra_Twice.f (l0 : List S38) : Option (Int × Bool) := if l0.length ≤ 1000000 ∧ (l0.all fun x => decide (0 ≤ x.f0 ∧ x.f0 ≤ 65535)) = true then some (twG [] l0) else none
set_option maxHeartbeats 8000000 in
set_option maxRecDepth 100000 in
theorem twice_walk (A0 : Option Addr) (c0 : Nat) (l : List S38) (w : World) (hr0 : Kd.C k38 w A0 l.length l) (hl : l.length ≤ 1000000) (hall : ∀ x ∈ l, 0 ≤ x.f0 ∧ x.f0 ≤ 65535) :
    Calls Try.prog 15 #[.slice A0 l.length c0] w fun e w' => e = .returned (.tuple #[.int .u16 (twG [] l).1, .bool (twG [] l).2]) ∧ Below w.heap.size w w' := by
  have HR := Aside0.mk hr0
  have HL := Aside0.mk hl
  have HA := Aside0.mk hall
  have HM := Aside0.mk (show OwnsV enc16 (w.alloc (.map #[] 0)) w.heap.size (seenG []) from by have := MapV.made (enc := enc16) w; rwa [show (fun _ => none) = seenG [] from by funext c; simp [seenG]] at this)
  have HB := Aside0.mk (below_alloc (Below.refl w.heap.size w) (.map #[] 0))
  clear hr0 hl hall
  have hmm := @run_makeMap Try.prog
  go_enter Try.func15, Try.ntmps15
  go_wp2
  clear hmm
  obtain ⟨gm, hgm⟩ : ∃ g, w.heap.size = g := ⟨_, rfl⟩
  rw [hgm] at HM ⊢
  have HGM := Aside0.mk hgm
  clear hgm
  go_loopw [10] (fun v10 wr => ∃ k : Nat, v10 = .int .i64 k ∧ k ≤ l.length ∧ Aside0 (twG ((l.take k).map fun x => x.f0) (l.drop k) = twG [] l) ∧ Aside0 (OwnsV enc16 wr gm (seenG ((l.take k).map fun x => x.f0))) ∧ Aside0 (Below w.heap.size w wr)) (fun v10 _ => l.length - (intOf v10).toNat)
  case atStart => exact ⟨0, rfl, by omega, ⟨by simp⟩, ⟨by simpa using HM.out⟩, HB⟩
  case round =>
    clear HB HM
    obtain ⟨k, rfl, hk, HT, HM, HB⟩ := hrel
    by_cases hlt : k < l.length
    · have hd : decide (k < l.length) = true := decide_eq_true hlt
      obtain ⟨ad, e1, hx0, hx1⟩ := at_T38 HR.out (k : Int) (by omega) (by omega)
      cases e1
      rw [rdT_get l k hlt, Int.toNat_natCast] at hx0 hx1
      replace hx0 := (HB.out.cell (World.block_lt_of_cell? _ _ hx0)).trans hx0
      replace hx1 := (HB.out.cell (World.block_lt_of_cell? _ _ hx1)).trans hx1
      have p1 := eq_true (show (0 : Int) ≤ (k : Int) by omega)
      have q1 := eq_true (show (k : Int) < (l.length : Int) by omega)
      have hlb := HL.out
      obtain ⟨x, y, hxy⟩ : ∃ x y, l[k] = (⟨x, y⟩ : S38) := ⟨_, _, rfl⟩
      obtain ⟨r0, r1⟩ := HA.out l[k] (List.getElem_mem hlt)
      rw [hxy] at hx0 hx1 r0 r1
      dsimp only at hx0 hx1 r0 r1
      have hT := HT.out
      rw [List.drop_eq_getElem_cons hlt, hxy, twG] at hT
      dsimp only at hT
      have HTK := Aside0.mk (show (l.take (k + 1)).map (fun x => x.f0) = (l.take k).map (fun x => x.f0) ++ [x] by rw [List.take_succ_eq_append_getElem hlt, List.map_append, hxy]; rfl)
      clear hxy HT
      obtain ⟨c, hc⟩ : ∃ c : Fin 65536, ((c.val : Nat) : Int) = x := ⟨⟨x.toNat, by omega⟩, by show ((x.toNat : Nat) : Int) = x; omega⟩
      have HB2 := Aside0.mk (below_alloc HB.out (.cells #[.int .u16 x, .string y] 38))
      have HM2 := Aside0.mk (HM.out.below (below_alloc (Below.refl wr.heap.size wr) (.cells #[.int .u16 x, .string y] 38)))
      have HX := Aside0.mk (heap_alloc_new wr (.cells #[.int .u16 x, .string y] 38))
      have HCX := Aside0.mk hc
      have HR0 := Aside0.mk r0
      have HR1 := Aside0.mk r1
      have HTT := Aside0.mk hT
      clear hT hc r0 r1
      go_upto_region 5 with (fail)
      generalize wr.alloc (.cells #[.int .u16 x, .string y] 38) = w1 at HB2 HM2 HX ⊢
      generalize wr.heap.size = gx at HX ⊢
      have k0 := blk_cell HX.out 0
      simp only [List.getElem?_toArray, List.getElem?_cons_zero] at k0
      have hrun := look16 HM2.out c
      unfold enc16 at hrun
      rw [HCX.out] at hrun
      clear hx0 hx1 p1 q1
      by_cases hin : x ∈ (l.take k).map fun x => x.f0
      · rw [decide_eq_true hin] at hrun
        have hT := HTT.out
        rw [if_pos hin] at hT
        have HT2 := Aside0.mk hT
        clear hT hin
        go_wp2
        go_ret2
        refine ⟨?_, HB2.out⟩
        rw [← HT2.out]
        rfl
      · rw [decide_eq_false hin] at hrun
        have hT := HTT.out
        rw [if_neg hin] at hT
        have HT2 := Aside0.mk hT
        clear hT hin
        obtain ⟨w2, hrun2, hM3, hg⟩ := upd16 HM2.out c
        unfold enc16 at hrun2
        rw [HCX.out] at hrun2 hM3
        have HM3 := Aside0.mk hM3
        have HB3 := Aside0.mk (HB2.out.grown hg (HB2.out.size) (fun j hj => by injection hj with hj; rw [← hj, ← HGM.out]; exact Nat.le_refl _))
        clear hM3 hg
        go_wp2
        go_roundw
        case rel => exact ⟨k + 1, by go_num, by omega, ⟨by rw [HTK.out]; exact HT2.out⟩, ⟨by rw [HTK.out]; exact HM3.out⟩, HB3⟩
        case measure => simp [intOf]; omega
    · have hd : decide (k < l.length) = false := decide_eq_false hlt
      have hT := HT.out
      rw [List.drop_of_length_le (by omega), twG] at hT
      have HT2 := Aside0.mk hT
      clear hT HT
      go_wp2
      go_ret2
      refine ⟨?_, HB.out⟩
      rw [← HT2.out]
      rfl
theorem extra_Twice.calls (A0 : Option Addr) (c0 : Nat) (l0 : List S38) (r1 : Int) (r2 : Bool) (w : World) (hr0 : Kd.C k38 w A0 l0.length l0) (hc0 : l0.length ≤ c0) (h : extra_Twice.f l0 = some (r1, r2)) :
    Calls Try.prog 15 #[.slice A0 l0.length c0] w fun e w' => e = .returned (.tuple #[.int .u16 r1, .bool r2]) ∧ Below w.heap.size w w' := by
  unfold extra_Twice.f at h
  by_cases hl : l0.length ≤ 1000000 ∧ (l0.all fun x => decide (0 ≤ x.f0 ∧ x.f0 ≤ 65535)) = true
  case neg => rw [if_neg hl] at h; cases h
  rw [if_pos hl] at h
  have hh := Option.some.inj h
  have := twice_walk A0 c0 l0 w hr0 hl.1 (fun x hx => by simpa using List.all_eq_true.1 hl.2 x hx)
  rw [hh] at this
  exact this
end Go.Proofs.Ytdlcihbfdbdbbaa.P

/- What the data of a law's argument say of the memory: for any type that is made of whole numbers, bools, strings, structs and slices. -/
namespace Go.Proofs.Ytdlcihbfdbdbbaa.Opens
set_option linter.unusedVariables false
set_option linter.unusedSimpArgs false
open Go Go.RowKit Go.Proofs.YtdlcihbfdbdbbaaW.PrintWords Go.Proofs.YtdlcihbfdbdbbaaW.PrintLast Go.Proofs.YtdlcihbfdbdbbaaW.PrintMore
section
variable {P : Program}
/-- Whatever reads as data of type t says an element of kind d. -/
structure Opens {α : Type} (P : Program) (t : TypeId) (d : Kd α) (ok : α → Prop) : Prop where
  size : P.cellsOf t = d.sz
  get : ∀ {H : Type} {enc : TypeId × Value → H} {w : World} {base : Nat} {spare : Nat → Bool} {held : Bool} {fuel : Nat} {cs : List Value} {x : DataW H × List MemPlace},
    DataW.trod enc P w base spare held fuel t cs = some x → ∃ a, d.K w a cs ∧ ok a
theorem Opens.int {t : TypeId} {k : IntKind} (hu : P.underlying t = some (.int k)) (hs : P.cellsOf t = 1) : Opens P t (Kd.int k) (fun n => (Lit.int k n).wf = true) :=
  ⟨hs, fun h => by obtain ⟨n, rfl, _, hw⟩ := DataW.trod_int hu h; exact ⟨n, rfl, hw⟩⟩
theorem Opens.bool {t : TypeId} (hu : P.underlying t = some .bool) (hs : P.cellsOf t = 1) : Opens P t Kd.bool (fun _ => True) :=
  ⟨hs, fun h => by obtain ⟨b, rfl, _⟩ := DataW.trod_bool hu h; exact ⟨b, rfl, trivial⟩⟩
theorem Opens.string {t : TypeId} (hu : P.underlying t = some .string) (hs : P.cellsOf t = 1) : Opens P t Kd.string (fun s => s.size ≤ maxLen) :=
  ⟨hs, fun h => by obtain ⟨s, rfl, _, hl⟩ := DataW.trod_string hu h; exact ⟨s, rfl, hl⟩⟩
/-- A slice's cells: its length, and the row that is read. -/
theorem slice_row {α : Type} {t e : TypeId} {d : Kd α} {ok : α → Prop} (hu : P.underlying t = some (.slice e)) (ho : Opens P e d ok)
    {H : Type} {enc : TypeId × Value → H} {w : World} {base : Nat} {spare : Nat → Bool} {held : Bool} {fuel : Nat} {cs : List Value} {x : DataW H × List MemPlace}
    (h : DataW.trod enc P w base spare held fuel t cs = some x) :
    ∃ A c, ∃ xs : List α, cs = [.slice A xs.length c] ∧ xs.length ≤ c ∧ d.C w A xs.length xs ∧ (∀ a ∈ xs, ok a) ∧ (x.1 = .nil ∧ xs = [] ∨ ∃ elems rest, x.1 = .slice elems rest ∧ elems.length = xs.length) := by
  rcases DataW.trod_slice hu h with ⟨rfl, rfl⟩ | ⟨a, len, cap, elems, rest, n, _, rfl, rfl, _, hl, hm, hlen, hel, _, _⟩
  · exact ⟨none, 0, [], rfl, Nat.le_refl _, ⟨rfl, by simp, fun h0 => absurd h0 (by simp)⟩, (fun a ha => by cases ha), .inl ⟨rfl, rfl⟩⟩
  · have each : ∀ i : Fin len, ∃ p, ok p ∧ ∃ c, c.length = d.sz ∧ d.K w p c ∧ ∀ j u, c[j]? = some u → w.cell? (a.add (i * d.sz + j)) = some u := by
      intro i
      have h1 := hel i i.2
      have h2 : (i : Nat) < elems.length := by have := i.2; omega
      rw [List.getElem?_eq_getElem h2, Option.bind_eq_some_iff] at h1
      obtain ⟨cs', hcs, ht⟩ := h1
      obtain ⟨_, hcl, hcc⟩ := World.cells?_some hcs
      obtain ⟨p, hp, hok⟩ := ho.get ht
      rw [ho.size] at hcl hcc
      refine ⟨p, hok, cs', hcl, hp, fun j u hj => ?_⟩
      have hj2 : j < d.sz := by
        rw [← hcl]
        exact (List.getElem?_eq_some_iff.1 hj).1
      have h3 := hcc j hj2
      rw [hj] at h3
      rw [← h3, add_add]
    have hg : ∀ (j : Nat) (p : α), (List.ofFn fun i => Classical.choose (each i))[j]? = some p → ∃ hj : j < len, p = Classical.choose (each ⟨j, hj⟩) := by
      intro j p hp
      obtain ⟨hj, he⟩ := List.getElem?_eq_some_iff.1 hp
      rw [List.length_ofFn] at hj
      refine ⟨hj, ?_⟩
      rw [← he, List.getElem_ofFn]
    refine ⟨some a, cap, List.ofFn fun i => Classical.choose (each i), by rw [List.length_ofFn], by rw [List.length_ofFn]; exact hl, ⟨rfl, ?_, fun _ => ⟨a, rfl, fun j p hp => ?_⟩⟩, ?_, .inr ⟨_, _, rfl, by rw [List.length_ofFn, List.length_map, hlen]⟩⟩
    · rw [List.length_ofFn]
      unfold maxLen at hm
      omega
    · obtain ⟨hj, rfl⟩ := hg j p hp
      obtain ⟨_, c, hc, hk, hcell⟩ := Classical.choose_spec (each ⟨j, hj⟩)
      exact ⟨c, hc, hk, hcell⟩
    · intro p hp
      obtain ⟨j, hj⟩ := List.getElem?_of_mem hp
      obtain ⟨hj', rfl⟩ := hg j p hj
      exact (Classical.choose_spec (each ⟨j, hj'⟩)).1
theorem Opens.slice {α : Type} {t e : TypeId} {d : Kd α} {ok : α → Prop} (hu : P.underlying t = some (.slice e)) (hs : P.cellsOf t = 1) (ho : Opens P e d ok) : Opens P t (Kd.slice e d) (fun xs => ∀ a ∈ xs, ok a) :=
  ⟨hs, fun h => by obtain ⟨A, c, xs, rfl, hl, hc, hok, _⟩ := slice_row hu ho h; exact ⟨xs, ⟨A, c, rfl, hl, hc⟩, hok⟩⟩
/-- A law's slice argument: what it reads as, and how long it is at most. -/
theorem open_row {α : Type} {t e : TypeId} {d : Kd α} {ok : α → Prop} (hu : P.underlying t = some (.slice e)) (ho : Opens P e d ok)
    {H : Type} {enc : TypeId × Value → H} {w : World} {base : Nat} {spare : Nat → Bool} {held : Bool} {a : Option Addr} {len cap : Nat} {dd : DataW H} {ps : List MemPlace} {ts : List TypeId} {ds : List (DataW H)} {j : Nat}
    (hsz : (DataW.weightsEach P ts ds).all (· ≤ reachBytes) = true) (ht : ts[j]? = some t) (hd : ds[j]? = some dd)
    (h : DataW.Trod enc P w base spare held t (.slice a len cap) dd ps) :
    ∃ xs : List α, xs.length = len ∧ len ≤ cap ∧ d.C w a xs.length xs ∧ (∀ x ∈ xs, ok x) ∧ xs.length * P.bytesOf e ≤ 140737488351232 := by
  obtain ⟨fuel, hf⟩ := h
  obtain ⟨A, c, xs, hcs, hl, hc, hok, hx⟩ := slice_row hu ho hf
  simp [Value.cells] at hcs
  obtain ⟨rfl, rfl, rfl⟩ := hcs
  refine ⟨xs, rfl, hl, hc, hok, ?_⟩
  rcases hx with ⟨_, rfl⟩ | ⟨elems, rest, hx, he⟩
  · simp
  · simp only at hx
    subst hx
    have z := Go.sized_slice hsz ht hd hu
    have h3 : xs.length ≤ elems.length + rest.length := by omega
    exact Nat.le_trans (Nat.mul_le_mul_right _ h3) z
end
end Go.Proofs.Ytdlcihbfdbdbbaa.Opens
