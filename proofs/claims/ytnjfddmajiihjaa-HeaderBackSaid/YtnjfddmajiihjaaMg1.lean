import Derived.Test.YtnjfddmajiihjaaProg
import Derived.Shelf.Strings.Builder1
import Derived.Test.YtnjfddmajiihjaaWMore
import Derived.Laws.BitsLemmas
namespace Go.Proofs.Ytnjfddmajiihjaa.Sb
set_option linter.unusedVariables false
set_option linter.unusedSimpArgs false
open Go Go.RowKit Go.Shelf Go.Proofs
def here : Ren := ⟨fun n => if n = 166 then 38 else if n = 169 then 40 else if n = 240 then 44 else if n = 276 then 45 else n, fun n => if n = 0 then 0 else if n = 3 then 3 else if n = 4 then 4 else if n = 5 then 5 else if n = 9 then 9 else if n = 20 then 20 else if n = 37 then 32 else if n = 70 then 79 else if n = 72 then 81 else if n = 75 then 83 else if n = 164 then 93 else if n = 127 then 92 else if n = 80 then 87 else n, fun n => n⟩
theorem lays166 : Lays.n166 Try.prog here where
  mixed := by kernel_rfl
  f166 := (show Try.prog.funcs[38]? = some (Body.n166 here) from Try.func38.trans (congrArg some (by kernel_rfl)))
  f240 := (show Try.prog.funcs[44]? = some (Body.n240 here) from Try.func44.trans (congrArg some (by kernel_rfl)))
  f276 := (show Try.prog.funcs[45]? = some (Body.n276 here) from Try.func45.trans (congrArg some (by kernel_rfl)))
  t0 := Try.underlying0
  a0 := Try.isAgg0
  z0 := Try.sizeOf0
  v0 := Try.zeroValue0
  t3 := Try.underlying3
  a3 := Try.isAgg3
  z3 := Try.sizeOf3
  v3 := Try.zeroValue3
  t4 := Try.underlying4
  a4 := Try.isAgg4
  z4 := Try.sizeOf4
  v4 := Try.zeroValue4
  t9 := Try.underlying9
  a9 := Try.isAgg9
  z9 := Try.sizeOf9
  v9 := Try.zeroValue9
  t20 := Try.underlying20
  a20 := Try.isAgg20
  z20 := Try.sizeOf20
  v20 := Try.zeroValue20
  t37 := Try.underlying32
  a37 := Try.isAgg32
  z37 := Try.sizeOf32
  v37 := Try.zeroValue32
  t70 := Try.underlying79
  a70 := Try.isAgg79
  z70 := Try.sizeOf79
  v70 := Try.zeroValue79
  t72 := Try.underlying81
  a72 := Try.isAgg81
  z72 := Try.sizeOf81
  v72 := Try.zeroValue81
  t75 := Try.underlying83
  a75 := Try.isAgg83
  z75 := Try.sizeOf83
  v75 := Try.zeroValue83
  t164 := Try.underlying93
  a164 := Try.isAgg93
  z164 := Try.sizeOf93
  v164 := Try.zeroValue93
theorem lays169 : Lays.n169 Try.prog here where
  mixed := by kernel_rfl
  f169 := (show Try.prog.funcs[40]? = some (Body.n169 here) from Try.func40.trans (congrArg some (by kernel_rfl)))
  t0 := Try.underlying0
  a0 := Try.isAgg0
  z0 := Try.sizeOf0
  v0 := Try.zeroValue0
  t3 := Try.underlying3
  a3 := Try.isAgg3
  z3 := Try.sizeOf3
  v3 := Try.zeroValue3
  t9 := Try.underlying9
  a9 := Try.isAgg9
  z9 := Try.sizeOf9
  v9 := Try.zeroValue9
  t37 := Try.underlying32
  a37 := Try.isAgg32
  z37 := Try.sizeOf32
  v37 := Try.zeroValue32
  t70 := Try.underlying79
  a70 := Try.isAgg79
  z70 := Try.sizeOf79
  v70 := Try.zeroValue79
  t72 := Try.underlying81
  a72 := Try.isAgg81
  z72 := Try.sizeOf81
  v72 := Try.zeroValue81
  t127 := Try.underlying92
  a127 := Try.isAgg92
  z127 := Try.sizeOf92
  v127 := Try.zeroValue92
theorem extra : Builder.Extra Try.prog here where
  sizeBuilder := by kernel_rfl
  liesBuilder := by kernel_rfl
  t5 := Try.underlying5
  a5 := Try.isAgg5
  z5 := Try.sizeOf5
  v5 := Try.zeroValue5
  infoByte := by kernel_rfl
  cellsByte := by kernel_rfl
  sizeByte := by kernel_rfl
  neB5 := by decide
theorem at_below {T e : TypeId} {B b : Nat} {p : Value} {bs : List Value} {W W' : World} (h : Lib.BuilderAt T e B b p bs W) (hb : Below W.heap.size W W') : Lib.BuilderAt T e B b p bs W' := by
  obtain ⟨hB, v, hv, hown, hne⟩ := h
  have hlt : b < W.heap.size := by
    rcases Nat.lt_or_ge b W.heap.size with h' | h'
    · exact h'
    · simp [Array.getElem?_eq_none h'] at hv
  exact ⟨hB, v, (hb.block b hlt).trans hv, hown.kept (row := none) ⟨hb.os, hb.tape, hb.output, hb.size, fun k hk _ => hb.block k hk⟩ (Classical.em _), hne⟩
theorem is_below {T e : TypeId} {B b : Nat} {bs : List Value} {W W' : World} (h : Lib.IsBuilder T e B b bs W) (hb : Below W.heap.size W W') : Lib.IsBuilder T e B b bs W' :=
  h.elim (fun x => .inl (at_below x hb)) (fun x => .inr (at_below x hb))
theorem write_calls (B b : Nat) (l : List UInt8) (s : ByteArray) (w : World) (h : Lib.IsBuilder 81 5 B b (Lib.byteCells l) w) (hlen : l.length + s.size ≤ 140737488355328) (hBw : B ≤ w.heap.size) :
    Calls Try.prog 38 #[.pointer (some ⟨b, 0, none⟩), .string s] w fun e w' => e = .returned (.tuple #[.int .i64 s.size, .nilIface]) ∧ (Lib.IsBuilder 81 5 B b (Lib.byteCells (l ++ s.data.toList)) w' ∧ Below B w w') :=
  (Any.Builder_WriteString lays166 extra B b _ s w h (by rw [Lib.byteCells_length]; exact hlen) hBw).mono fun e w' ⟨he, hat, hb⟩ => ⟨he, by
    have hq : Lib.byteCells l ++ Lib.strCells s = Lib.byteCells (l ++ s.data.toList) := by rw [Lib.strCells_eq]; simp [Lib.byteCells]
    rw [hq] at hat; exact .inr hat, hb⟩
theorem string_calls (B b : Nat) (l : List UInt8) (w : World) (h : Lib.IsBuilder 81 5 B b (Lib.byteCells l) w) (hBw : B ≤ w.heap.size) :
    Calls Try.prog 40 #[.pointer (some ⟨b, 0, none⟩)] w fun e w' => e = .returned (.string ⟨l.toArray⟩) ∧ Below B w w' :=
  Any.Builder_String_any lays169 extra B b l w h hBw
theorem fresh (w : World) : Lib.IsBuilder 81 5 w.heap.size w.heap.size (Lib.byteCells []) (w.alloc (.cells #[.pointer none, .slice none 0 0] 81)) := Lib.fresh_isBuilder 81 5 w
end Go.Proofs.Ytnjfddmajiihjaa.Sb
namespace Go.Proofs.Ytnjfddmajiihjaa.B
set_option linter.unusedVariables false
set_option linter.unusedSimpArgs false
open Go Go.RowKit Go.Proofs.YtnjfddmajiihjaaW.PrintWords Go.Proofs.YtnjfddmajiihjaaW.PrintLast Go.Proofs.YtnjfddmajiihjaaW.PrintMore
theorem wrap_id {x : Int} (h0 : -9223372036854775808 ≤ x) (h1 : x ≤ 9223372036854775807) : wrap64 x = x := by
  unfold wrap64; omega
theorem u64_mod (x : Int) : IntKind.u64.wrap x = x % 18446744073709551616 := by simp [IntKind.wrap, IntKind.bits, IntKind.signed]
theorem u64_id {x : Int} (h0 : 0 ≤ x) (h1 : x < 18446744073709551616) : IntKind.u64.wrap x = x := by rw [u64_mod]; omega
theorem u16_mod (x : Int) : IntKind.u16.wrap x = x % 65536 := by simp [IntKind.wrap, IntKind.bits, IntKind.signed]
theorem wf_u64 {x : Int} (h : (Lit.int .u64 x).wf = true) : 0 ≤ x ∧ x ≤ 18446744073709551615 := by
  simp [Lit.wf, IntKind.min, IntKind.max, IntKind.signed, IntKind.bits] at h; omega
theorem wf_u32 {x : Int} (h : (Lit.int .u32 x).wf = true) : 0 ≤ x ∧ x ≤ 4294967295 := by
  simp [Lit.wf, IntKind.min, IntKind.max, IntKind.signed, IntKind.bits] at h; omega
theorem wf_u16 {x : Int} (h : (Lit.int .u16 x).wf = true) : 0 ≤ x ∧ x ≤ 65535 := by
  simp [Lit.wf, IntKind.min, IntKind.max, IntKind.signed, IntKind.bits] at h; omega
def leN : List UInt8 → Nat
  | [] => 0
  | b :: l => b.toNat + 256 * leN l
theorem leN_append (a b : List UInt8) : leN (a ++ b) = leN a + 256 ^ a.length * leN b := by
  induction a with
  | nil => simp [leN]
  | cons x a ih => simp only [List.cons_append, leN, ih, List.length_cons, Nat.pow_succ]; rw [Nat.mul_add, Nat.mul_comm (256 ^ a.length) 256, Nat.mul_assoc, Nat.add_assoc]
theorem leN_lt (l : List UInt8) : leN l < 256 ^ l.length := by
  induction l with
  | nil => simp [leN]
  | cons x l ih => simp only [leN, List.length_cons, Nat.pow_succ]; have := x.toNat_lt; omega
def ofN : Nat → Nat → List UInt8
  | 0, _ => []
  | c + 1, n => UInt8.ofNat (n % 256) :: ofN c (n / 256)
theorem ofN_length (c n : Nat) : (ofN c n).length = c := by
  induction c generalizing n with
  | zero => rfl
  | succ c ih => simp [ofN, ih]
theorem leN_ofN (c n : Nat) : leN (ofN c n) = n % 256 ^ c := by
  induction c generalizing n with
  | zero => simp [ofN, leN, Nat.mod_one]
  | succ c ih =>
    simp only [ofN, leN, ih]
    rw [Nat.pow_succ, Nat.mul_comm (256 ^ c) 256, Nat.mod_mul]
    have : (UInt8.ofNat (n % 256)).toNat = n % 256 := by simp
    rw [this]
theorem ofN_mod (c n : Nat) : ofN c (n % 256 ^ c) = ofN c n := by
  induction c generalizing n with
  | zero => rfl
  | succ c ih =>
    simp only [ofN]
    have h1 : n % 256 ^ (c + 1) % 256 = n % 256 := Nat.mod_mod_of_dvd _ ⟨256 ^ c, by rw [Nat.pow_succ, Nat.mul_comm]⟩
    have h2 : n % 256 ^ (c + 1) / 256 = n / 256 % 256 ^ c := by
      rw [Nat.pow_succ, Nat.mul_comm (256 ^ c) 256, Nat.mod_mul]
      omega
    rw [h1, h2, ih]
theorem ofN_get (c n i : Nat) (h : i < c) : (ofN c n)[i]? = some (UInt8.ofNat (n / 256 ^ i % 256)) := by
  induction c generalizing n i with
  | zero => omega
  | succ c ih =>
    cases i with
    | zero => simp [ofN]
    | succ i => simp only [ofN, List.getElem?_cons_succ]; rw [ih _ _ (by omega), Nat.pow_succ, Nat.mul_comm (256 ^ i) 256, Nat.div_div_eq_div_mul]
theorem ofN_leN (l : List UInt8) : ofN l.length (leN l) = l := by
  induction l with
  | nil => rfl
  | cons b l ih =>
    simp only [List.length_cons, ofN, leN]
    have := b.toNat_lt
    rw [show (b.toNat + 256 * leN l) % 256 = b.toNat by omega, show (b.toNat + 256 * leN l) / 256 = leN l by omega, ih]
    simp
theorem bt_nat (s : ByteArray) (i : Nat) (h : i < s.data.toList.length) : bt s (i : Int) = ((s.data.toList[i]).toNat : Int) := by
  have h' : i < s.size := by simpa using h
  have := bt_at s (i : Int) (by simpa using h')
  rw [← this]
  simp [ByteArray.getElem_eq_getElem_data]
theorem toList_length (s : ByteArray) : s.data.toList.length = s.size := by simp
theorem toL (s : ByteArray) : s.toList = s.data.toList := ByteArray.toList_eq s
theorem or_shl (a b i : Nat) (hi : i < 8) (ha : a < 256 ^ i) (hb : b < 256) : Go.bits .or .u64 (a : Int) (shl .u64 (IntKind.u64.wrap (b : Int)) ((8 * i : Nat) : Int)) = ((a + 256 ^ i * b : Nat) : Int) := by
  have e : (256 : Nat) ^ i = 2 ^ (8 * i) := by rw [Nat.pow_mul]
  have hp : 256 ^ i * 256 ≤ 2 ^ 64 := by
    rw [e, show (256 : Nat) = 2 ^ 8 from rfl, ← Nat.pow_add]
    exact Nat.pow_le_pow_right (by decide) (by omega)
  have hm : 256 ^ i * b < 2 ^ 64 := Nat.lt_of_lt_of_le (Nat.mul_lt_mul_of_pos_left hb (Nat.pow_pos (by decide))) hp
  have hs : shl .u64 (IntKind.u64.wrap (b : Int)) ((8 * i : Nat) : Int) = ((256 ^ i * b : Nat) : Int) := by
    unfold shl
    rw [u64_id (x := (b : Int)) (by omega) (by omega), Int.toNat_natCast, Nat.min_eq_left (by simp [IntKind.bits]; omega)]
    have e2 : (b : Int) * 2 ^ (8 * i) = ((256 ^ i * b : Nat) : Int) := by rw [e]; simp [Int.mul_comm]
    rw [e2, u64_id (by omega) (by omega)]
  rw [hs, (bits_nat .u64 64 (by decide) (fun n h0 h1 => u64_id h0 h1) a (256 ^ i * b) (Nat.lt_of_lt_of_le ha (by omega)) hm).2, e, Nat.or_comm, Nat.add_comm,
    Nat.two_pow_add_eq_or_of_lt (by rw [← e]; exact ha)]
end Go.Proofs.Ytnjfddmajiihjaa.B
namespace Go.Proofs.Ytnjfddmajiihjaa.Mx
open Go Go.RowKit Go.Proofs.YtnjfddmajiihjaaW.PrintMore
theorem max_five (ats : Array TypeId) (ty : TypeId) (a b c d e : Value) : Builtin.max_ ats ty #[a, b, c, d, e] = (Builtin.max2 a b >>= fun s => Builtin.max2 s c >>= fun s => Builtin.max2 s d >>= fun s => Builtin.max2 s e >>= fun s => pure s) := by simp only [Builtin.max_, List.foldlM_cons, List.foldlM_nil]
theorem max_six (ats : Array TypeId) (ty : TypeId) (a b c d e f : Value) : Builtin.max_ ats ty #[a, b, c, d, e, f] = (Builtin.max2 a b >>= fun s => Builtin.max2 s c >>= fun s => Builtin.max2 s d >>= fun s => Builtin.max2 s e >>= fun s => Builtin.max2 s f >>= fun s => pure s) := by simp only [Builtin.max_, List.foldlM_cons, List.foldlM_nil]
theorem max_seven (ats : Array TypeId) (ty : TypeId) (a b c d e f g : Value) : Builtin.max_ ats ty #[a, b, c, d, e, f, g] = (Builtin.max2 a b >>= fun s => Builtin.max2 s c >>= fun s => Builtin.max2 s d >>= fun s => Builtin.max2 s e >>= fun s => Builtin.max2 s f >>= fun s => Builtin.max2 s g >>= fun s => pure s) := by simp only [Builtin.max_, List.foldlM_cons, List.foldlM_nil]
end Go.Proofs.Ytnjfddmajiihjaa.Mx
namespace Go.Proofs.Ytnjfddmajiihjaa.Num
set_option linter.unusedVariables false
set_option linter.unusedSimpArgs false
open Go Go.RowKit Go.Proofs.Ytnjfddmajiihjaa.B Go.Proofs.YtnjfddmajiihjaaW.PrintWords Go.Proofs.YtnjfddmajiihjaaW.PrintLast Go.Proofs.YtnjfddmajiihjaaW.PrintMore
def ofI (n : Nat) (c : Int) : List UInt8 := ofN (min c.toNat 64) n
def strN (l : List UInt8) : ByteArray := ⟨l.toArray⟩
theorem strN_eq (xs : List Int) (l : List UInt8) (h : xs = l.map fun b => (b.toNat : Int)) : strOfNums xs = strN l := by
  subst h
  simp [strOfNums, strN, List.map_map, Function.comp_def]
end Go.Proofs.Ytnjfddmajiihjaa.Num
