/- Several texts in one (merge.py): An array of whole numbers in a block of its own.; Plain facts on bytes, little-endian numbers and 64-bit words: no program in sight.; The lowest so many bytes of a number, as a string: plain Lean.; What the program's reading of a number comes to: plain Lean.; What the cursor's methods come to, over bytes that are told as lists: plain Lean.; A cursor at what is left of its bytes, as a list: plain Lean.; One: what it takes.; One at what is left: plain Lean.; Four: what it takes.; Four at what is left: plain Lean.; Eight: what it takes.; Eight at what is left: plain Lean.; What the program's writing of a number comes to: plain Lean.; Four bytes: plain Lean.; awake of the fourteenth chapter: its example, closed.; Plain: the sum of a text, by a table and bit by bit.; crc.Make, (*Table).Update, Sum; field.sum: the walks.; (*crc.Table).Update, Sum; field.sum: the walks.; field.sum: the sum of a name, in the printer's form.; utf8.ValidString, laid at this program's own numbers out of the library's contract. Printed by genutf.py.; What the rows list: the tables of UTF-8.; What the reference's reading of a number comes to: plain Lean.; Eight bytes: plain Lean.; What the reference's writing of a number comes to: plain Lean.; Plain: the reference's sum is the program's. -/
import Derived.Test.YtloojhhjljneeaaDoorWMore
import Derived.Test.YtloojhhjljneeaaDoorWKept
import Derived.Deep.MidRow
import Derived.Laws.BitsLemmas
import Derived.Test.YtloojhhjljneeaaDoorPx3
import Derived.Test.YtloojhhjljneeaaDoorPx2
import Derived.Test.YtloojhhjljneeaaDoorPx9
import Derived.Test.YtloojhhjljneeaaDoorPx1
import Derived.Test.YtloojhhjljneeaaDoorProg
import Derived.Shelf.Unicode.ValidAny
import Derived.Lib.LaidU8T
import Derived.Test.YtloojhhjljneeaaDoorRows
import Derived.Stop.LaidErr
import Derived.Test.YtloojhhjljneeaaDoorPx6
import Derived.Test.YtloojhhjljneeaaDoorPx7
/- An array of whole numbers in a block of its own. -/
namespace Go.Proofs.YtloojhhjljneeaaDoor.Ar
set_option linter.unusedVariables false
set_option linter.unusedSimpArgs false
open Go Go.RowKit Go.Proofs.YtloojhhjljneeaaDoorW.PrintWords Go.Proofs.YtloojhhjljneeaaDoorW.PrintLast Go.Proofs.YtloojhhjljneeaaDoorW.PrintMore
/-- Two rows that a function gives back, out of its results' own blocks. -/
theorem results_rows2 {fn : Func} {t u : Tmp} {T U : TypeId} (h : fn.results = #[.cell t T, .cell u U]) (tmps : Array Value) (P : Program) (w : World) (g g2 : Nat) (cs ds : List Value) (d d2 : TypeDesc)
    (h1 : tmps.getD t undef = .pointer (some ⟨g, 0, none⟩)) (h2 : tmps.getD u undef = .pointer (some ⟨g2, 0, none⟩)) (hc : w.rangeAt g 0 cs) (hc2 : w.rangeAt g2 0 ds)
    (hu : P.underlying T = some d) (hd : d.isRow = true) (hi : (P.info? T).map (·.size) = some cs.length) (hu2 : P.underlying U = some d2) (hd2 : d2.isRow = true) (hi2 : (P.info? U).map (·.size) = some ds.length) :
    (results fn tmps).run P w = .ok (.tuple #[.agg cs.toArray, .agg ds.toArray]) w := by
  rw [Array.getD_eq_getD_getElem?] at h1 h2
  simp [results, h, h1, h2, asAddr, run_loadVar_mid w g 0 T cs d hc hu hd hi, run_loadVar_mid w g2 0 U ds d2 hc2 hu2 hd2 hi2]
/-- Cells laid in a block from B on turn nothing below B. -/
theorem below_setCells {B g : Nat} {w0 : World} (hg : B ≤ g) : ∀ (vs : List Value) (o : Nat) (w : World), Below B w0 w → Below B w0 (w.setCells g o vs)
  | [], _, w, h => h
  | v :: r, o, w, h => below_setCells hg r (o + 1) _ (h.setCell (p := ⟨g, o, none⟩) hg v)
theorem rangeAt_below {w w' : World} {B g o : Nat} {cs : List Value} (h : w.rangeAt g o cs) (hb : Below B w w') (hlt : g < B) : w'.rangeAt g o cs := fun j v hj => by rw [hb.cell (p := ⟨g, o + j, none⟩) hlt]; exact h j v hj
/-- A whole row goes into a block's cells, as the walk shows it. -/
theorem run_store_row {P : Program} (w : World) (g : Nat) (cs : List Value) (n : Nat) (hn : cs.length = n) (ht : w.there g 0 n) (h1 : ∀ v ∈ cs, v.oneCell' = true) :
    (storeCells ⟨g, 0, none⟩ cs).run P w = .ok () (w.setCells g 0 cs) := by
  have := run_storeCells_cells (P := P) g 0 cs 0 w (fun j hj => by simpa using (ht j (by omega)).1) (fun j hj => by simpa using (ht j (by omega)).2) h1
  simpa using this
/-- A whole row is read, as the walk shows it. -/
theorem run_load_row {P : Program} (w : World) (g : Nat) (cs : List Value) (n : Nat) (hn : cs.length = n) (h : w.rangeAt g 0 cs) : (loadCells ⟨g, 0, none⟩ n).run P w = .ok cs.toArray w := by
  rw [← hn]
  exact run_loadCells_list w ⟨g, 0, none⟩ cs (fun j v hj => by rw [Addr.add_mid]; exact h j v hj)
section
variable {W W1 : World} {g T : Nat} {k : IntKind} {xs : List Int} {S : Nat → Prop}
def ints (k : IntKind) (xs : List Int) : List Value := xs.map (Value.int k)
def Arr (W : World) (g T : Nat) (k : IntKind) (xs : List Int) : Prop := W.heap[g]? = some (.cells (ints k xs).toArray T (0, 0))
theorem ints_len (k : IntKind) (xs : List Int) : (ints k xs).length = xs.length := by simp [ints]
theorem Arr.lt (h : Arr W g T k xs) : g < W.heap.size := blk_lt h
theorem Arr.cell (h : Arr W g T k xs) (i : Nat) (hi : i < xs.length) : W.cell? ⟨g, i, none⟩ = some (.int k (xs.getD i 0)) := by
  rw [blk_cell h i]
  simp [ints, List.getD_eq_getElem?_getD, List.getElem?_eq_getElem hi]
theorem Arr.frozen (h : Arr W g T k xs) (i : Nat) : W.frozen? ⟨g, i, none⟩ = false := blk_frozen h i
theorem Arr.set (h : Arr W g T k xs) (i : Nat) (x : Int) : Arr (W.setCell ⟨g, i, none⟩ (.int k x)) g T k (xs.set i x) := by
  have h1 := blk_set h i (.int k x)
  unfold Arr
  rw [h1]
  congr 2
  apply Array.ext'
  simp [ints, List.map_set]
theorem Arr.far (h : Arr W g T k xs) {p : Addr} (hp : g ≠ p.block) (u : Value) : Arr (W.setCell p u) g T k xs := blk_far h hp u
theorem Arr.below (h : Arr W g T k xs) (hb : Below W.heap.size W W1) : Arr W1 g T k xs := blk_below h hb
theorem Arr.alloc (h : Arr W g T k xs) (o : Obj) : Arr (W.alloc o) g T k xs := blk_alloc h o
theorem Arr.drewN (h : Arr W g T k xs) (n : Nat) : Arr (W.drewN n) g T k xs := h
theorem Arr.kept (h : Arr W g T k xs) (hk : Kept W W1 S) (hg : ¬ S g) : Arr W1 g T k xs := blk_kept h hk hg
theorem Arr.range (h : Arr W g T k xs) : W.rangeAt g 0 (ints k xs) := fun j v hj => by
  rw [Nat.zero_add, blk_cell h j]
  simpa using hj
theorem Arr.there (h : Arr W g T k xs) : W.there g 0 xs.length := fun j hj => by
  rw [Nat.zero_add]
  exact ⟨by rw [h.cell j hj]; rfl, h.frozen j⟩
theorem Arr.new (W : World) (T : Nat) (k : IntKind) (xs : List Int) : Arr (W.alloc (.cells (ints k xs).toArray T)) W.heap.size T k xs := heap_alloc_new W _
/-- Two new rows, and what is stored into them whole. -/
theorem two_rows (w w0 : World) (B T U : Nat) (k : IntKind) (za zb : List Int) (csA csB : List Value) (ha : csA.length = za.length) (hb : csB.length = zb.length) (na : 0 < za.length) (nb : 0 < zb.length) (hB : B ≤ w.heap.size) (hw : Below B w0 w) :
    ((w.alloc (.cells (ints k za).toArray T)).alloc (.cells (ints k zb).toArray U)).there w.heap.size 0 za.length
    ∧ (((w.alloc (.cells (ints k za).toArray T)).alloc (.cells (ints k zb).toArray U)).setCells w.heap.size 0 csA).there (w.heap.size + 1) 0 zb.length
    ∧ ((((w.alloc (.cells (ints k za).toArray T)).alloc (.cells (ints k zb).toArray U)).setCells w.heap.size 0 csA).setCells (w.heap.size + 1) 0 csB).rangeAt w.heap.size 0 csA
    ∧ ((((w.alloc (.cells (ints k za).toArray T)).alloc (.cells (ints k zb).toArray U)).setCells w.heap.size 0 csA).setCells (w.heap.size + 1) 0 csB).rangeAt (w.heap.size + 1) 0 csB
    ∧ Below B w0 ((((w.alloc (.cells (ints k za).toArray T)).alloc (.cells (ints k zb).toArray U)).setCells w.heap.size 0 csA).setCells (w.heap.size + 1) 0 csB)
    ∧ w.heap.size + 1 < ((((w.alloc (.cells (ints k za).toArray T)).alloc (.cells (ints k zb).toArray U)).setCells w.heap.size 0 csA).setCells (w.heap.size + 1) 0 csB).heap.size := by
  have hA := (Arr.new w T k za).alloc (.cells (ints k zb).toArray U)
  have hs : (w.alloc (.cells (ints k za).toArray T)).heap.size = w.heap.size + 1 := by simp
  have hZ := Arr.new (w.alloc (.cells (ints k za).toArray T)) U k zb
  rw [hs] at hZ
  have t1 := hA.there
  have t2 := World.there_setCells hZ.there w.heap.size 0 csA
  have t2' := t2
  rw [← hb] at t2'
  have r2 := World.rangeAt_setCells_same _ _ _ _ t2'
  refine ⟨t1, t2, World.rangeAt_setCells_apart (World.rangeAt_setCells_same _ _ _ _ (by rw [ha]; exact t1)) _ _ _ (by omega), r2, ?_, ?_⟩
  · exact below_setCells (by omega) _ _ _ (below_setCells (by omega) _ _ _ ((hw.alloc hB _).alloc (by rw [hs]; omega) _))
  · have h0 : csB[0]? = some csB[0] := List.getElem?_eq_getElem (by omega)
    exact World.block_lt_of_cell? _ _ (r2 0 _ h0)
end
end Go.Proofs.YtloojhhjljneeaaDoor.Ar

/- Plain facts on bytes, little-endian numbers and 64-bit words: no program in sight. -/
namespace Go.Proofs.YtloojhhjljneeaaDoor.B
set_option linter.unusedVariables false
set_option linter.unusedSimpArgs false
open Go Go.RowKit Go.Proofs.YtloojhhjljneeaaDoorW.PrintWords Go.Proofs.YtloojhhjljneeaaDoorW.PrintLast Go.Proofs.YtloojhhjljneeaaDoorW.PrintMore

theorem wrap_id {x : Int} (h0 : -9223372036854775808 ≤ x) (h1 : x ≤ 9223372036854775807) : wrap64 x = x := by
  unfold wrap64; omega
theorem u64_mod (x : Int) : IntKind.u64.wrap x = x % 18446744073709551616 := by simp [IntKind.wrap, IntKind.bits, IntKind.signed]
theorem u64_id {x : Int} (h0 : 0 ≤ x) (h1 : x < 18446744073709551616) : IntKind.u64.wrap x = x := by rw [u64_mod]; omega
theorem u16_mod (x : Int) : IntKind.u16.wrap x = x % 65536 := by simp [IntKind.wrap, IntKind.bits, IntKind.signed]
theorem wf_u64 {x : Int} (h : (Lit.int .u64 x).wf = true) : 0 ≤ x ∧ x ≤ 18446744073709551615 := by
  simp [Lit.wf, IntKind.min, IntKind.max, IntKind.signed, IntKind.bits] at h; omega
theorem wf_u32 {x : Int} (h : (Lit.int .u32 x).wf = true) : 0 ≤ x ∧ x ≤ 4294967295 := by
  simp [Lit.wf, IntKind.min, IntKind.max, IntKind.signed, IntKind.bits] at h; omega
theorem wf_u16 {x : Int} (h : (Lit.int .u16 x).wf = true) : 0 ≤ x ∧ x ≤ 65535 := by
  simp [Lit.wf, IntKind.min, IntKind.max, IntKind.signed, IntKind.bits] at h; omega
theorem wf_u8 {x : Int} (h : (Lit.int .u8 x).wf = true) : 0 ≤ x ∧ x ≤ 255 := by
  simp [Lit.wf, IntKind.min, IntKind.max, IntKind.signed, IntKind.bits] at h; omega
theorem wf_i64 {x : Int} (h : (Lit.int .i64 x).wf = true) : -9223372036854775808 ≤ x ∧ x ≤ 9223372036854775807 := by
  simp [Lit.wf, IntKind.min, IntKind.max, IntKind.signed, IntKind.bits] at h; omega

/-- The number that bytes are, the lowest first. -/
def leN : List UInt8 → Nat
  | [] => 0
  | b :: l => b.toNat + 256 * leN l
theorem leN_append (a b : List UInt8) : leN (a ++ b) = leN a + 256 ^ a.length * leN b := by
  induction a with
  | nil => simp [leN]
  | cons x a ih => simp only [List.cons_append, leN, ih, List.length_cons, Nat.pow_succ]; rw [Nat.mul_add, Nat.mul_comm (256 ^ a.length) 256, Nat.mul_assoc, Nat.add_assoc]
theorem leN_lt (l : List UInt8) : leN l < 256 ^ l.length := by
  induction l with
  | nil => simp [leN]
  | cons x l ih => simp only [leN, List.length_cons, Nat.pow_succ]; have := x.toNat_lt; omega
/-- The lowest so many bytes of a number. -/
def ofN : Nat → Nat → List UInt8
  | 0, _ => []
  | c + 1, n => UInt8.ofNat (n % 256) :: ofN c (n / 256)
theorem ofN_length (c n : Nat) : (ofN c n).length = c := by
  induction c generalizing n with
  | zero => rfl
  | succ c ih => simp [ofN, ih]
theorem leN_ofN (c n : Nat) : leN (ofN c n) = n % 256 ^ c := by
  induction c generalizing n with
  | zero => simp [ofN, leN, Nat.mod_one]
  | succ c ih =>
    simp only [ofN, leN, ih]
    rw [Nat.pow_succ, Nat.mul_comm (256 ^ c) 256, Nat.mod_mul]
    have : (UInt8.ofNat (n % 256)).toNat = n % 256 := by simp
    rw [this]
theorem ofN_mod (c n : Nat) : ofN c (n % 256 ^ c) = ofN c n := by
  induction c generalizing n with
  | zero => rfl
  | succ c ih =>
    simp only [ofN]
    have h1 : n % 256 ^ (c + 1) % 256 = n % 256 := Nat.mod_mod_of_dvd _ ⟨256 ^ c, by rw [Nat.pow_succ, Nat.mul_comm]⟩
    have h2 : n % 256 ^ (c + 1) / 256 = n / 256 % 256 ^ c := by
      rw [Nat.pow_succ, Nat.mul_comm (256 ^ c) 256, Nat.mod_mul]
      omega
    rw [h1, h2, ih]
theorem ofN_get (c n i : Nat) (h : i < c) : (ofN c n)[i]? = some (UInt8.ofNat (n / 256 ^ i % 256)) := by
  induction c generalizing n i with
  | zero => omega
  | succ c ih =>
    cases i with
    | zero => simp [ofN]
    | succ i => simp only [ofN, List.getElem?_cons_succ]; rw [ih _ _ (by omega), Nat.pow_succ, Nat.mul_comm (256 ^ i) 256, Nat.div_div_eq_div_mul]
theorem ofN_leN (l : List UInt8) : ofN l.length (leN l) = l := by
  induction l with
  | nil => rfl
  | cons b l ih =>
    simp only [List.length_cons, ofN, leN]
    have := b.toNat_lt
    rw [show (b.toNat + 256 * leN l) % 256 = b.toNat by omega, show (b.toNat + 256 * leN l) / 256 = leN l by omega, ih]
    simp

theorem bt_nat (s : ByteArray) (i : Nat) (h : i < s.data.toList.length) : bt s (i : Int) = ((s.data.toList[i]).toNat : Int) := by
  have h' : i < s.size := by simpa using h
  have := bt_at s (i : Int) (by simpa using h')
  rw [← this]
  simp [ByteArray.getElem_eq_getElem_data]
theorem toList_length (s : ByteArray) : s.data.toList.length = s.size := by simp
theorem toL (s : ByteArray) : s.toList = s.data.toList := ByteArray.toList_eq s

/-- One byte more of a number that is put together with | and <<. -/
theorem or_shl (a b i : Nat) (hi : i < 8) (ha : a < 256 ^ i) (hb : b < 256) : Go.bits .or .u64 (a : Int) (shl .u64 (IntKind.u64.wrap (b : Int)) ((8 * i : Nat) : Int)) = ((a + 256 ^ i * b : Nat) : Int) := by
  have e : (256 : Nat) ^ i = 2 ^ (8 * i) := by rw [Nat.pow_mul]
  have hp : 256 ^ i * 256 ≤ 2 ^ 64 := by
    rw [e, show (256 : Nat) = 2 ^ 8 from rfl, ← Nat.pow_add]
    exact Nat.pow_le_pow_right (by decide) (by omega)
  have hm : 256 ^ i * b < 2 ^ 64 := Nat.lt_of_lt_of_le (Nat.mul_lt_mul_of_pos_left hb (Nat.pow_pos (by decide))) hp
  have hs : shl .u64 (IntKind.u64.wrap (b : Int)) ((8 * i : Nat) : Int) = ((256 ^ i * b : Nat) : Int) := by
    unfold shl
    rw [u64_id (x := (b : Int)) (by omega) (by omega), Int.toNat_natCast, Nat.min_eq_left (by simp [IntKind.bits]; omega)]
    have e2 : (b : Int) * 2 ^ (8 * i) = ((256 ^ i * b : Nat) : Int) := by rw [e]; simp [Int.mul_comm]
    rw [e2, u64_id (by omega) (by omega)]
  rw [hs, (bits_nat .u64 64 (by decide) (fun n h0 h1 => u64_id h0 h1) a (256 ^ i * b) (Nat.lt_of_lt_of_le ha (by omega)) hm).2, e, Nat.or_comm, Nat.add_comm,
    Nat.two_pow_add_eq_or_of_lt (by rw [← e]; exact ha)]

end Go.Proofs.YtloojhhjljneeaaDoor.B

/- The lowest so many bytes of a number, as a string: plain Lean. -/
namespace Go.Proofs.YtloojhhjljneeaaDoor.Num
set_option linter.unusedVariables false
set_option linter.unusedSimpArgs false
open Go Go.RowKit Go.Proofs.YtloojhhjljneeaaDoor.B Go.Proofs.YtloojhhjljneeaaDoorW.PrintWords Go.Proofs.YtloojhhjljneeaaDoorW.PrintLast Go.Proofs.YtloojhhjljneeaaDoorW.PrintMore

/-- The lowest so many bytes, as both texts have them. -/
def ofI (n : Nat) (c : Int) : List UInt8 := ofN (min c.toNat 64) n
def strN (l : List UInt8) : ByteArray := ⟨l.toArray⟩
theorem strN_eq (xs : List Int) (l : List UInt8) (h : xs = l.map fun b => (b.toNat : Int)) : strOfNums xs = strN l := by
  subst h
  simp [strOfNums, strN, List.map_map, Function.comp_def]

end Go.Proofs.YtloojhhjljneeaaDoor.Num

/- What the program's reading of a number comes to: plain Lean. -/
namespace Go.Proofs.YtloojhhjljneeaaDoor.Num
set_option linter.unusedVariables false
set_option linter.unusedSimpArgs false
open Go Go.RowKit Go.Proofs.YtloojhhjljneeaaDoor.P Go.Proofs.YtloojhhjljneeaaDoor.B Go.Proofs.YtloojhhjljneeaaDoorW.PrintWords Go.Proofs.YtloojhhjljneeaaDoorW.PrintLast Go.Proofs.YtloojhhjljneeaaDoorW.PrintMore

theorem number_loop (s : ByteArray) (hs : s.size ≤ 8) : ∀ (d k i : Nat), i + d = s.size → d < k →
    cursor_number.l0 k s ((leN (s.data.toList.take i) : Nat) : Int) (s.size : Int) (i : Int) = some ((leN s.data.toList : Nat) : Int) := by
  have hl : s.data.toList.length = s.size := toList_length s
  intro d
  induction d with
  | zero =>
    intro k i hd hk
    obtain ⟨k, rfl⟩ : ∃ m, k = m + 1 := ⟨k - 1, by omega⟩
    simp only [cursor_number.l0]
    rw [if_neg (by omega), List.take_of_length_le (by omega)]
  | succ d ih =>
    intro k i hd hk
    obtain ⟨k, rfl⟩ : ∃ m, k = m + 1 := ⟨k - 1, by omega⟩
    have hlt : i < s.data.toList.length := by omega
    have h8 : wrap64 (8 * (i : Int)) = ((8 * i : Nat) : Int) := by rw [wrap_id (by omega) (by omega)]; omega
    have hi1 : wrap64 ((i : Int) + 1) = ((i + 1 : Nat) : Int) := by rw [wrap_id (by omega) (by omega)]; omega
    have hb := bt_nat s i hlt
    have ht := leN_lt (s.data.toList.take i)
    rw [List.length_take, Nat.min_eq_left (by omega)] at ht
    simp only [cursor_number.l0]
    rw [if_pos (by omega), if_pos (by omega), if_pos (by omega), h8, if_pos (by omega), hi1, hb, or_shl _ _ i (by omega) ht (UInt8.toNat_lt _)]
    have e : leN (s.data.toList.take (i + 1)) = leN (s.data.toList.take i) + 256 ^ i * (s.data.toList[i]).toNat := by
      rw [List.take_succ_eq_append_getElem hlt, leN_append, List.length_take, Nat.min_eq_left (by omega)]
      simp [leN]
    rw [← e]
    exact ih k (i + 1) (by omega) (by omega)

theorem number_eq (s : ByteArray) (hs : s.size ≤ 8) (k : Nat) (hk : 8 < k) : cursor_number.f k s = some ((leN s.data.toList : Nat) : Int) := by
  have := number_loop s hs s.size k 0 (by omega) (by omega)
  simpa [cursor_number.f, leN] using this

end Go.Proofs.YtloojhhjljneeaaDoor.Num

/- What the cursor's methods come to, over bytes that are told as lists: plain Lean. -/
namespace Go.Proofs.YtloojhhjljneeaaDoor.Cur
set_option linter.unusedVariables false
set_option linter.unusedSimpArgs false
open Go Go.RowKit Go.Proofs.YtloojhhjljneeaaDoor.P Go.Proofs.YtloojhhjljneeaaDoor.B Go.Proofs.YtloojhhjljneeaaDoor.Num Go.Proofs.YtloojhhjljneeaaDoorW.PrintWords Go.Proofs.YtloojhhjljneeaaDoorW.PrintLast Go.Proofs.YtloojhhjljneeaaDoorW.PrintMore

theorem strN_data (l : List UInt8) : (strN l).data.toList = l := rfl
theorem strN_size (l : List UInt8) : (strN l).size = l.length := by simp [strN, ByteArray.size]
theorem strN_append (a b : List UInt8) : strN a ++ strN b = strN (a ++ b) := by
  apply ByteArray.ext; apply Array.toList_inj.1; simp [strN]
theorem strN_of (s : ByteArray) : strN s.data.toList = s := rfl
theorem ext_list {s t : ByteArray} (h : s.data.toList = t.data.toList) : s = t := ByteArray.ext (Array.toList_inj.1 h)
theorem extract_list (s : ByteArray) (i j : Nat) : (s.extract i j).data.toList = (s.data.toList.take j).drop i := by
  simp [List.extract_eq_take_drop, List.drop_take]
theorem extract_strN {s : ByteArray} {pre mid post : List UInt8} (h : s.data.toList = pre ++ mid ++ post) : s.extract pre.length (pre.length + mid.length) = strN mid := by
  apply ext_list
  rw [extract_list, h, strN_data, List.append_assoc, List.take_append]
  simp
theorem number_strN (l : List UInt8) (h : l.length ≤ 8) (k : Nat) (hk : 8 < k) : cursor_number.f k (strN l) = some ((leN l : Nat) : Int) := by
  have := number_eq (strN l) (by rw [strN_size]; exact h) k hk
  rwa [strN_data] at this

section
variable {s : ByteArray} {at_ n : Int} {pre mid post : List UInt8}
theorem take_list (hs : s.size ≤ 140737488351232) (h : s.data.toList = pre ++ mid ++ post) (ha : at_ = pre.length) (hn : n = mid.length) :
    cursor_Cursor_Take.f s at_ 0 n = some (strN mid, s, (((pre ++ mid).length : Nat) : Int), 0) := by
  have hl : s.size = pre.length + mid.length + post.length := by rw [← toList_length s, h]; simp; omega
  unfold cursor_Cursor_Take.f
  rw [if_pos rfl, if_neg (by omega), wrap_id (x := (s.size : Int) - at_) (by omega) (by omega), if_neg (by omega), wrap_id (x := at_ + n) (by omega) (by omega), if_pos (by omega), if_pos (by omega), if_pos (by omega)]
  have e1 : at_.toNat = pre.length := by omega
  have e2 : (at_ + n).toNat = pre.length + mid.length := by omega
  rw [e1, e2, extract_strN h]
  simp only [Option.some.injEq, Prod.mk.injEq, and_true, true_and]
  simp; omega
/-- Nothing is taken behind the end. -/
theorem take_short (hs : s.size ≤ 140737488351232) (ha : 0 ≤ at_) (ha2 : at_ ≤ s.size) (hn : n < 0 ∨ (s.size : Int) - at_ < n) : cursor_Cursor_Take.f s at_ 0 n = some (strN [], s, at_, 3) := by
  unfold cursor_Cursor_Take.f
  rw [if_pos rfl]
  by_cases h0 : n < 0
  · rw [if_pos h0]; rfl
  · rw [if_neg h0, wrap_id (x := (s.size : Int) - at_) (by omega) (by omega), if_pos (by omega)]; rfl
theorem take_bad {e : Int} (he : e ≠ 0) : cursor_Cursor_Take.f s at_ e n = some (strN [], s, at_, e) := by
  unfold cursor_Cursor_Take.f
  rw [if_neg he]; rfl
end
end Go.Proofs.YtloojhhjljneeaaDoor.Cur

/- A cursor at what is left of its bytes, as a list: plain Lean. -/
namespace Go.Proofs.YtloojhhjljneeaaDoor.Cur
set_option linter.unusedVariables false
set_option linter.unusedSimpArgs false
open Go Go.RowKit Go.Proofs.YtloojhhjljneeaaDoor.P Go.Proofs.YtloojhhjljneeaaDoor.B Go.Proofs.YtloojhhjljneeaaDoor.Num Go.Proofs.YtloojhhjljneeaaDoorW.PrintWords Go.Proofs.YtloojhhjljneeaaDoorW.PrintLast Go.Proofs.YtloojhhjljneeaaDoorW.PrintMore
/-- At this place the bytes R are left. -/
def At (s : ByteArray) (a : Int) (R : List UInt8) : Prop := s.size ≤ 140737488351232 ∧ ∃ pre : List UInt8, s.data.toList = pre ++ R ∧ a = pre.length
theorem At.start (s : ByteArray) (hs : s.size ≤ 140737488351232) : At s 0 s.data.toList := ⟨hs, [], rfl, rfl⟩
theorem At.size {s : ByteArray} {a : Int} {R : List UInt8} (h : At s a R) : (s.size : Int) = a + R.length := by
  obtain ⟨_, pre, he, rfl⟩ := h
  rw [← toList_length s, he]; simp
theorem At.nn {s : ByteArray} {a : Int} {R : List UInt8} (h : At s a R) : 0 ≤ a := by
  obtain ⟨_, pre, he, rfl⟩ := h
  omega
theorem At.big {s : ByteArray} {a : Int} {R : List UInt8} (h : At s a R) : (s.size : Int) ≤ 140737488351232 := by have := h.1; omega
theorem At.on {s : ByteArray} {a : Int} {m R : List UInt8} (h : At s a (m ++ R)) : At s (a + m.length) R := by
  obtain ⟨hs, pre, he, rfl⟩ := h
  exact ⟨hs, pre ++ m, by rw [he]; simp, by simp⟩
theorem take_at {s : ByteArray} {a n : Int} {m R : List UInt8} (h : At s a (m ++ R)) (hn : n = m.length) : cursor_Cursor_Take.f s a 0 n = some (strN m, s, a + m.length, 0) := by
  obtain ⟨hs, pre, he, rfl⟩ := h
  rw [take_list (pre := pre) (mid := m) (post := R) hs (by rw [he]; simp) rfl hn]
  simp
theorem take_fail {s : ByteArray} {a n : Int} {R : List UInt8} (h : At s a R) (hn : n < 0 ∨ (R.length : Int) < n) : cursor_Cursor_Take.f s a 0 n = some (strN [], s, a, 3) := by
  have h1 := h.size
  have h2 := h.nn
  exact take_short h.1 h2 (by omega) (by omega)
theorem left_at {s : ByteArray} {a : Int} {R : List UInt8} (h : At s a R) : wrap64 ((s.size : Int) - a) = R.length := by
  have h1 := h.size
  have h2 := h.nn
  have h3 := h.big
  rw [wrap_id (by omega) (by omega)]; omega
theorem leN_one (x : UInt8) : leN [x] = x.toNat := by simp [leN]
end Go.Proofs.YtloojhhjljneeaaDoor.Cur

/- One: what it takes. -/
namespace Go.Proofs.YtloojhhjljneeaaDoor.Cur
set_option linter.unusedVariables false
set_option linter.unusedSimpArgs false
open Go Go.RowKit Go.Proofs.YtloojhhjljneeaaDoor.P Go.Proofs.YtloojhhjljneeaaDoor.B Go.Proofs.YtloojhhjljneeaaDoor.Num Go.Proofs.YtloojhhjljneeaaDoorW.PrintWords Go.Proofs.YtloojhhjljneeaaDoorW.PrintLast Go.Proofs.YtloojhhjljneeaaDoorW.PrintMore
section
variable {s : ByteArray} {at_ : Int} {pre mid post : List UInt8}
theorem one_list (hs : s.size ≤ 140737488351232) (h : s.data.toList = pre ++ mid ++ post) (ha : at_ = pre.length) (hn : mid.length = 1) (k : Nat) (hk : 8 < k) :
    cursor_Cursor_One.f k s at_ 0 = some (((leN mid : Nat) : Int), s, (((pre ++ mid).length : Nat) : Int), 0) := by
  unfold cursor_Cursor_One.f
  have hb := leN_lt mid
  rw [hn] at hb
  rw [take_list hs h ha (by omega)]
  simp only [Option.bind_some]
  rw [number_strN _ (by omega) _ hk]
  simp only [Option.bind_some]
  rw [show ((leN mid : Nat) : Int) % 256 = (leN mid : Nat) by omega]
theorem one_short (hs : s.size ≤ 140737488351232) (ha : 0 ≤ at_) (ha2 : at_ ≤ s.size) (hn : (s.size : Int) - at_ < 1) (k : Nat) (hk : 8 < k) : cursor_Cursor_One.f k s at_ 0 = some (0, s, at_, 3) := by
  unfold cursor_Cursor_One.f
  rw [take_short hs ha ha2 (.inr hn)]
  simp only [Option.bind_some]
  rw [number_strN _ (by simp) _ hk]
  rfl
theorem one_bad {e : Int} (he : e ≠ 0) (k : Nat) (hk : 8 < k) : cursor_Cursor_One.f k s at_ e = some (0, s, at_, e) := by
  unfold cursor_Cursor_One.f
  rw [take_bad he]
  simp only [Option.bind_some]
  rw [number_strN _ (by simp) _ hk]
  rfl
end
end Go.Proofs.YtloojhhjljneeaaDoor.Cur

/- One at what is left: plain Lean. -/
namespace Go.Proofs.YtloojhhjljneeaaDoor.Cur
set_option linter.unusedVariables false
set_option linter.unusedSimpArgs false
open Go Go.RowKit Go.Proofs.YtloojhhjljneeaaDoor.P Go.Proofs.YtloojhhjljneeaaDoor.B Go.Proofs.YtloojhhjljneeaaDoor.Num Go.Proofs.YtloojhhjljneeaaDoorW.PrintWords Go.Proofs.YtloojhhjljneeaaDoorW.PrintLast Go.Proofs.YtloojhhjljneeaaDoorW.PrintMore
theorem one_at {s : ByteArray} {a : Int} {m R : List UInt8} (h : At s a (m ++ R)) (hn : m.length = 1) (k : Nat) (hk : 8 < k) : cursor_Cursor_One.f k s a 0 = some (((leN m : Nat) : Int), s, a + m.length, 0) := by
  obtain ⟨hs, pre, he, rfl⟩ := h
  rw [one_list (pre := pre) (mid := m) (post := R) hs (by rw [he]; simp) rfl hn k hk]
  simp
theorem one_fail {s : ByteArray} {a : Int} {R : List UInt8} (h : At s a R) (hn : R.length < 1) (k : Nat) (hk : 8 < k) : cursor_Cursor_One.f k s a 0 = some (0, s, a, 3) := by
  have h1 := h.size
  have h2 := h.nn
  exact one_short h.1 h2 (by omega) (by omega) k hk
end Go.Proofs.YtloojhhjljneeaaDoor.Cur

/- Four: what it takes. -/
namespace Go.Proofs.YtloojhhjljneeaaDoor.Cur
set_option linter.unusedVariables false
set_option linter.unusedSimpArgs false
open Go Go.RowKit Go.Proofs.YtloojhhjljneeaaDoor.P Go.Proofs.YtloojhhjljneeaaDoor.B Go.Proofs.YtloojhhjljneeaaDoor.Num Go.Proofs.YtloojhhjljneeaaDoorW.PrintWords Go.Proofs.YtloojhhjljneeaaDoorW.PrintLast Go.Proofs.YtloojhhjljneeaaDoorW.PrintMore
section
variable {s : ByteArray} {at_ : Int} {pre mid post : List UInt8}
theorem four_list (hs : s.size ≤ 140737488351232) (h : s.data.toList = pre ++ mid ++ post) (ha : at_ = pre.length) (hn : mid.length = 4) (k : Nat) (hk : 8 < k) :
    cursor_Cursor_Four.f k s at_ 0 = some (((leN mid : Nat) : Int), s, (((pre ++ mid).length : Nat) : Int), 0) := by
  unfold cursor_Cursor_Four.f
  have hb := leN_lt mid
  rw [hn] at hb
  rw [take_list hs h ha (by omega)]
  simp only [Option.bind_some]
  rw [number_strN _ (by omega) _ hk]
  simp only [Option.bind_some]
  rw [show ((leN mid : Nat) : Int) % 4294967296 = (leN mid : Nat) by omega]
theorem four_short (hs : s.size ≤ 140737488351232) (ha : 0 ≤ at_) (ha2 : at_ ≤ s.size) (hn : (s.size : Int) - at_ < 4) (k : Nat) (hk : 8 < k) : cursor_Cursor_Four.f k s at_ 0 = some (0, s, at_, 3) := by
  unfold cursor_Cursor_Four.f
  rw [take_short hs ha ha2 (.inr hn)]
  simp only [Option.bind_some]
  rw [number_strN _ (by simp) _ hk]
  rfl
theorem four_bad {e : Int} (he : e ≠ 0) (k : Nat) (hk : 8 < k) : cursor_Cursor_Four.f k s at_ e = some (0, s, at_, e) := by
  unfold cursor_Cursor_Four.f
  rw [take_bad he]
  simp only [Option.bind_some]
  rw [number_strN _ (by simp) _ hk]
  rfl
end
end Go.Proofs.YtloojhhjljneeaaDoor.Cur

/- Four at what is left: plain Lean. -/
namespace Go.Proofs.YtloojhhjljneeaaDoor.Cur
set_option linter.unusedVariables false
set_option linter.unusedSimpArgs false
open Go Go.RowKit Go.Proofs.YtloojhhjljneeaaDoor.P Go.Proofs.YtloojhhjljneeaaDoor.B Go.Proofs.YtloojhhjljneeaaDoor.Num Go.Proofs.YtloojhhjljneeaaDoorW.PrintWords Go.Proofs.YtloojhhjljneeaaDoorW.PrintLast Go.Proofs.YtloojhhjljneeaaDoorW.PrintMore
theorem four_at {s : ByteArray} {a : Int} {m R : List UInt8} (h : At s a (m ++ R)) (hn : m.length = 4) (k : Nat) (hk : 8 < k) : cursor_Cursor_Four.f k s a 0 = some (((leN m : Nat) : Int), s, a + m.length, 0) := by
  obtain ⟨hs, pre, he, rfl⟩ := h
  rw [four_list (pre := pre) (mid := m) (post := R) hs (by rw [he]; simp) rfl hn k hk]
  simp
theorem four_fail {s : ByteArray} {a : Int} {R : List UInt8} (h : At s a R) (hn : R.length < 4) (k : Nat) (hk : 8 < k) : cursor_Cursor_Four.f k s a 0 = some (0, s, a, 3) := by
  have h1 := h.size
  have h2 := h.nn
  exact four_short h.1 h2 (by omega) (by omega) k hk
end Go.Proofs.YtloojhhjljneeaaDoor.Cur

/- Eight: what it takes. -/
namespace Go.Proofs.YtloojhhjljneeaaDoor.Cur
set_option linter.unusedVariables false
set_option linter.unusedSimpArgs false
open Go Go.RowKit Go.Proofs.YtloojhhjljneeaaDoor.P Go.Proofs.YtloojhhjljneeaaDoor.B Go.Proofs.YtloojhhjljneeaaDoor.Num Go.Proofs.YtloojhhjljneeaaDoorW.PrintWords Go.Proofs.YtloojhhjljneeaaDoorW.PrintLast Go.Proofs.YtloojhhjljneeaaDoorW.PrintMore
section
variable {s : ByteArray} {at_ : Int} {pre mid post : List UInt8}
theorem eight_list (hs : s.size ≤ 140737488351232) (h : s.data.toList = pre ++ mid ++ post) (ha : at_ = pre.length) (hn : mid.length = 8) (k : Nat) (hk : 8 < k) :
    cursor_Cursor_Eight.f k s at_ 0 = some (((leN mid : Nat) : Int), s, (((pre ++ mid).length : Nat) : Int), 0) := by
  unfold cursor_Cursor_Eight.f
  have hb := leN_lt mid
  rw [hn] at hb
  rw [take_list hs h ha (by omega)]
  simp only [Option.bind_some]
  rw [number_strN _ (by omega) _ hk]
  simp only [Option.bind_some]
theorem eight_short (hs : s.size ≤ 140737488351232) (ha : 0 ≤ at_) (ha2 : at_ ≤ s.size) (hn : (s.size : Int) - at_ < 8) (k : Nat) (hk : 8 < k) : cursor_Cursor_Eight.f k s at_ 0 = some (0, s, at_, 3) := by
  unfold cursor_Cursor_Eight.f
  rw [take_short hs ha ha2 (.inr hn)]
  simp only [Option.bind_some]
  rw [number_strN _ (by simp) _ hk]
  rfl
theorem eight_bad {e : Int} (he : e ≠ 0) (k : Nat) (hk : 8 < k) : cursor_Cursor_Eight.f k s at_ e = some (0, s, at_, e) := by
  unfold cursor_Cursor_Eight.f
  rw [take_bad he]
  simp only [Option.bind_some]
  rw [number_strN _ (by simp) _ hk]
  rfl
end
end Go.Proofs.YtloojhhjljneeaaDoor.Cur

/- Eight at what is left: plain Lean. -/
namespace Go.Proofs.YtloojhhjljneeaaDoor.Cur
set_option linter.unusedVariables false
set_option linter.unusedSimpArgs false
open Go Go.RowKit Go.Proofs.YtloojhhjljneeaaDoor.P Go.Proofs.YtloojhhjljneeaaDoor.B Go.Proofs.YtloojhhjljneeaaDoor.Num Go.Proofs.YtloojhhjljneeaaDoorW.PrintWords Go.Proofs.YtloojhhjljneeaaDoorW.PrintLast Go.Proofs.YtloojhhjljneeaaDoorW.PrintMore
theorem eight_at {s : ByteArray} {a : Int} {m R : List UInt8} (h : At s a (m ++ R)) (hn : m.length = 8) (k : Nat) (hk : 8 < k) : cursor_Cursor_Eight.f k s a 0 = some (((leN m : Nat) : Int), s, a + m.length, 0) := by
  obtain ⟨hs, pre, he, rfl⟩ := h
  rw [eight_list (pre := pre) (mid := m) (post := R) hs (by rw [he]; simp) rfl hn k hk]
  simp
theorem eight_fail {s : ByteArray} {a : Int} {R : List UInt8} (h : At s a R) (hn : R.length < 8) (k : Nat) (hk : 8 < k) : cursor_Cursor_Eight.f k s a 0 = some (0, s, a, 3) := by
  have h1 := h.size
  have h2 := h.nn
  exact eight_short h.1 h2 (by omega) (by omega) k hk
end Go.Proofs.YtloojhhjljneeaaDoor.Cur

/- What the program's writing of a number comes to: plain Lean. -/
namespace Go.Proofs.YtloojhhjljneeaaDoor.Num
set_option linter.unusedVariables false
set_option linter.unusedSimpArgs false
open Go Go.RowKit Go.Proofs.YtloojhhjljneeaaDoor.P Go.Proofs.YtloojhhjljneeaaDoor.B Go.Proofs.YtloojhhjljneeaaDoorW.PrintWords Go.Proofs.YtloojhhjljneeaaDoorW.PrintLast Go.Proofs.YtloojhhjljneeaaDoorW.PrintMore

theorem of_loop (n c : Nat) (hn : n < 2 ^ 64) : ∀ (d k i : Nat) (xs : List Int), i + d = min c 8 → xs = (ofN i n).map (fun b => (b.toNat : Int)) ++ List.replicate (c - i) 0 → d < k →
    cursor_Of.l0 k (n : Int) xs ((min c 8 : Nat) : Int) (i : Int) = some (strN (ofN c n)) := by
  intro d
  induction d with
  | zero =>
    intro k i xs hd hx hk
    obtain ⟨k, rfl⟩ : ∃ m, k = m + 1 := ⟨k - 1, by omega⟩
    have hs : strOfNums xs = strN (ofN c n) := by
      apply strN_eq
      rw [hx]
      apply List.ext_getElem?
      intro j
      by_cases h1 : j < i
      · rw [List.getElem?_append_left (by simpa [ofN_length] using h1)]
        simp only [List.getElem?_map]
        rw [ofN_get _ _ _ h1, ofN_get _ _ _ (by omega)]
      · rw [List.getElem?_append_right (by simp [ofN_length]; omega)]
        by_cases h2 : j < c
        · simp only [List.getElem?_map]
          rw [ofN_get _ _ _ h2]
          have : n / 256 ^ j = 0 := by
            apply Nat.div_eq_of_lt
            have : 256 ^ 8 ≤ 256 ^ j := Nat.pow_le_pow_right (by decide) (by omega)
            omega
          simp only [Option.map_some, this, List.length_map, ofN_length, List.getElem?_replicate]
          rw [if_pos (by omega)]
          rfl
        · rw [List.getElem?_eq_none (by simp [ofN_length]; omega), List.getElem?_eq_none (by simp [ofN_length]; omega)]
    simp only [cursor_Of.l0]
    rw [if_neg (by omega), hs]
  | succ d ih =>
    intro k i xs hd hx hk
    obtain ⟨k, rfl⟩ : ∃ m, k = m + 1 := ⟨k - 1, by omega⟩
    have hlen : xs.length = c := by rw [hx]; simp [ofN_length]; omega
    have h8 : wrap64 (8 * (i : Int)) = ((8 * i : Nat) : Int) := by rw [wrap_id (by omega) (by omega)]; omega
    simp only [cursor_Of.l0]
    rw [if_pos (by omega), h8, if_pos (by omega), if_pos (by omega), if_pos (by omega), wrap_id (by omega) (by omega)]
    have e1 : shr .u64 (n : Int) ((8 * i : Nat) : Int) % 256 = ((n / 256 ^ i % 256 : Nat) : Int) := by
      unfold shr
      rw [Int.toNat_natCast, Nat.min_eq_left (by simp [IntKind.bits]; omega), show (256 : Nat) ^ i = 2 ^ (8 * i) by rw [Nat.pow_mul]]
      simp
    rw [e1, Int.toNat_natCast]
    refine ih k (i + 1) _ (by omega) ?_ (by omega)
    rw [hx]
    apply List.ext_getElem?
    intro j
    rw [List.getElem?_set]
    by_cases h1 : j < i
    · rw [if_neg (by omega), List.getElem?_append_left (by simpa [ofN_length] using h1), List.getElem?_append_left (by simp [ofN_length]; omega)]
      simp only [List.getElem?_map]
      rw [ofN_get _ _ _ h1, ofN_get _ _ _ (by omega)]
    · by_cases h2 : i = j
      · subst h2
        rw [if_pos rfl, if_pos (by simp [ofN_length]; omega), List.getElem?_append_left (by simp [ofN_length])]
        simp only [List.getElem?_map]
        rw [ofN_get _ _ _ (by omega)]
        simp
      · rw [if_neg h2, List.getElem?_append_right (by simp [ofN_length]; omega), List.getElem?_append_right (by simp [ofN_length]; omega)]
        simp only [List.length_map, ofN_length, List.getElem?_replicate]
        by_cases h3 : j < c
        · rw [if_pos (by omega), if_pos (by omega)]
        · rw [if_neg (by omega), if_neg (by omega)]

theorem of_eq (n : Nat) (hn : n < 2 ^ 64) (a1 : Int) (k : Nat) (hk : 64 < k) : cursor_Of.f k (n : Int) a1 = some (strN (ofI n a1)) := by
  have hm : mn (mx a1 0) 64 = ((min a1.toNat 64 : Nat) : Int) := by unfold mn mx; omega
  unfold cursor_Of.f ofI
  rw [hm, if_pos (by omega), if_pos (by omega)]
  simp only [Option.bind_some, List.length_replicate, Int.toNat_natCast]
  have hm2 : mn ((min a1.toNat 64 : Nat) : Int) 8 = ((min (min a1.toNat 64) 8 : Nat) : Int) := by unfold mn; omega
  rw [hm2]
  exact of_loop n (min a1.toNat 64) hn (min (min a1.toNat 64) 8) k 0 _ (by omega) (by simp [ofN]) (by omega)

end Go.Proofs.YtloojhhjljneeaaDoor.Num

/- Four bytes: plain Lean. -/
namespace Go.Proofs.YtloojhhjljneeaaDoor.Num
set_option linter.unusedVariables false
set_option linter.unusedSimpArgs false
open Go Go.RowKit Go.Proofs.YtloojhhjljneeaaDoor.P Go.Proofs.YtloojhhjljneeaaDoor.B Go.Proofs.YtloojhhjljneeaaDoorW.PrintWords Go.Proofs.YtloojhhjljneeaaDoorW.PrintLast Go.Proofs.YtloojhhjljneeaaDoorW.PrintMore

theorem four_eq (n : Nat) (hn : n < 2 ^ 32) (k : Nat) (hk : 64 < k) : cursor_Four.f k (n : Int) = some (strN (ofN 4 n)) := by
  unfold cursor_Four.f
  rw [u64_id (by omega) (by omega), of_eq n (by omega) 4 k hk]; rfl
end Go.Proofs.YtloojhhjljneeaaDoor.Num

/- awake of the fourteenth chapter: its example, closed. -/
namespace Go.Proofs.YtloojhhjljneeaaDoor.Walk
set_option linter.unusedVariables false
set_option linter.unusedSimpArgs false
open Go Go.RowKit Go.Proofs.YtloojhhjljneeaaDoor.P Go.Proofs.YtloojhhjljneeaaDoor.B Go.Proofs.YtloojhhjljneeaaDoor.Num Go.Proofs.YtloojhhjljneeaaDoorW.PrintWords Go.Proofs.YtloojhhjljneeaaDoorW.PrintLast Go.Proofs.YtloojhhjljneeaaDoorW.PrintMore

theorem awake_true : portmanteaulaw14_awake.f 100 = some true := by
  have h1 := four_eq 1 (by decide) 100 (by omega)
  have h2 := four_eq 2 (by decide) 100 (by omega)
  have hp : field_PrintOwner.f 100 1 2 = some (strN [1, 4, 1, 0, 0, 0, 4, 2, 0, 0, 0]) := by
    unfold field_PrintOwner.f
    rw [show (1 : Int) = ((1 : Nat) : Int) from rfl, show (2 : Int) = ((2 : Nat) : Int) from rfl, h1, Option.bind_some, h2, Option.bind_some]
    decide +kernel
  unfold portmanteaulaw14_awake.f
  rw [hp, Option.bind_some, toL]
  decide +kernel
end Go.Proofs.YtloojhhjljneeaaDoor.Walk

/- Plain: the sum of a text, by a table and bit by bit. -/
namespace Go.Proofs.YtloojhhjljneeaaDoor.Cr
set_option linter.unusedVariables false
set_option linter.unusedSimpArgs false
open Go Go.RowKit Go.Proofs.YtloojhhjljneeaaDoorW.PrintWords Go.Proofs.YtloojhhjljneeaaDoorW.PrintLast Go.Proofs.YtloojhhjljneeaaDoorW.PrintMore
def stepN (n : Nat) : Nat := if n % 2 = 1 then n / 2 ^^^ 3988292384 else n / 2
def stepsN (n : Nat) : Nat → Nat
  | 0 => n
  | k + 1 => stepN (stepsN n k)
theorem xor_half (a b : Nat) : (a ^^^ b) / 2 = a / 2 ^^^ b / 2 := by
  apply Nat.eq_of_testBit_eq
  intro i
  rw [← Nat.testBit_succ, Nat.testBit_xor, Nat.testBit_xor, Nat.testBit_succ, Nat.testBit_succ]
theorem xor_par (a b : Nat) : (a ^^^ b) % 2 = (a % 2 + b % 2) % 2 := by
  have h := Nat.testBit_xor (x := a) (y := b) (i := 0)
  simp only [Nat.testBit_zero] at h
  have h1 := Nat.mod_two_eq_zero_or_one a
  have h2 := Nat.mod_two_eq_zero_or_one b
  have h3 := Nat.mod_two_eq_zero_or_one (a ^^^ b)
  rcases h1 with h1 | h1 <;> rcases h2 with h2 | h2 <;> rcases h3 with h3 | h3 <;> simp [h1, h2, h3] at h ⊢
theorem step_xor (a b : Nat) : stepN (a ^^^ b) = stepN a ^^^ stepN b := by
  have hp := xor_par a b
  have hh := xor_half a b
  unfold stepN
  rcases Nat.mod_two_eq_zero_or_one a with h1 | h1 <;> rcases Nat.mod_two_eq_zero_or_one b with h2 | h2
  · rw [h1, h2] at hp; rw [if_neg (by omega), if_neg (by omega), if_neg (by omega), hh]
  · rw [h1, h2] at hp; rw [if_pos (by omega), if_neg (by omega), if_pos (by omega), hh, Nat.xor_assoc]
  · rw [h1, h2] at hp; rw [if_pos (by omega), if_pos (by omega), if_neg (by omega), hh, Nat.xor_assoc, Nat.xor_assoc, Nat.xor_comm (b / 2)]
  · rw [h1, h2] at hp
    rw [if_neg (by omega), if_pos (by omega), if_pos (by omega), hh, Nat.xor_assoc, ← Nat.xor_assoc 3988292384, Nat.xor_comm 3988292384, Nat.xor_assoc (b / 2), Nat.xor_self, Nat.xor_zero]
theorem steps_xor (a b : Nat) : ∀ k, stepsN (a ^^^ b) k = stepsN a k ^^^ stepsN b k
  | 0 => rfl
  | k + 1 => by rw [stepsN, stepsN, stepsN, steps_xor a b k, step_xor]
theorem stepsN_hi (y : Nat) : ∀ k j, stepsN (y * 2 ^ (k + j)) k = y * 2 ^ j
  | 0, j => by simp [stepsN]
  | k + 1, j => by
    rw [stepsN, show k + 1 + j = k + (j + 1) by omega, stepsN_hi y k (j + 1)]
    unfold stepN
    rw [Nat.pow_succ, ← Nat.mul_assoc, if_neg (by omega)]
    omega
theorem stepN_lt (n : Nat) (h : n < 4294967296) : stepN n < 4294967296 := by
  unfold stepN
  split
  · exact Nat.xor_lt_two_pow (n := 32) (by omega) (by omega)
  · omega
theorem stepsN_lt (n : Nat) (h : n < 4294967296) : ∀ k, stepsN n k < 4294967296
  | 0 => h
  | k + 1 => stepN_lt _ (stepsN_lt n h k)
theorem split8 (x : Nat) : x = x % 256 ^^^ x / 256 * 256 := by
  apply Nat.eq_of_testBit_eq
  intro i
  rw [Nat.testBit_xor, show (256 : Nat) = 2 ^ 8 from rfl, Nat.testBit_mod_two_pow, Nat.testBit_mul_two_pow, Nat.testBit_div_two_pow]
  by_cases h : i < 8
  · simp [h, show ¬ 8 ≤ i by omega]
  · simp [h, show 8 ≤ i by omega, show i - 8 + 8 = i by omega]
/-- Eight steps: of the low byte, and the rest moved. -/
theorem steps8 (x : Nat) : stepsN x 8 = stepsN (x % 256) 8 ^^^ x / 256 := by
  conv => lhs; rw [split8 x]
  rw [steps_xor]
  congr 1
  have := stepsN_hi (x / 256) 8 0
  simpa using this
theorem xor_low (x b : Nat) (hb : b < 256) : (x ^^^ b) % 256 = x % 256 ^^^ b ∧ (x ^^^ b) / 256 = x / 256 := by
  constructor
  · apply Nat.eq_of_testBit_eq
    intro i
    rw [Nat.testBit_xor, show (256 : Nat) = 2 ^ 8 from rfl, Nat.testBit_mod_two_pow, Nat.testBit_mod_two_pow, Nat.testBit_xor]
    by_cases h : i < 8
    · simp [h]
    · have : b.testBit i = false := Nat.testBit_lt_two_pow (Nat.lt_of_lt_of_le hb (by calc 256 = 2 ^ 8 := rfl
        _ ≤ 2 ^ i := Nat.pow_le_pow_right (by decide) (by omega)))
      simp [h, this]
  · apply Nat.eq_of_testBit_eq
    intro i
    rw [show (256 : Nat) = 2 ^ 8 from rfl, Nat.testBit_div_two_pow, Nat.testBit_div_two_pow, Nat.testBit_xor]
    have : b.testBit (i + 8) = false := Nat.testBit_lt_two_pow (Nat.lt_of_lt_of_le hb (by calc 256 = 2 ^ 8 := rfl
      _ ≤ 2 ^ (i + 8) := Nat.pow_le_pow_right (by decide) (by omega)))
    simp [this]
/-- One byte of a sum. -/
def byteN (x b : Nat) : Nat := stepsN (x ^^^ b) 8
theorem byteN_tab (x b : Nat) (hb : b < 256) : byteN x b = stepsN (x % 256 ^^^ b) 8 ^^^ x / 256 := by
  unfold byteN
  rw [steps8, (xor_low x b hb).1, (xor_low x b hb).2]
/-- The sum of a text. -/
def sumN (s : List UInt8) : Nat := 4294967295 - s.foldl (fun x b => byteN x b.toNat) 4294967295
theorem byteN_lt (x b : Nat) (hx : x < 4294967296) (hb : b < 256) : byteN x b < 4294967296 := stepsN_lt _ (Nat.xor_lt_two_pow (n := 32) hx (by omega)) 8
theorem fold_lt (s : List UInt8) : ∀ x, x < 4294967296 → s.foldl (fun x b => byteN x b.toNat) x < 4294967296 := by
  induction s with
  | nil => intro x h; exact h
  | cons b s ih => intro x h; exact ih _ (byteN_lt x _ h b.toNat_lt)
/-- xor of numbers. -/
theorem xor_nat (k : IntKind) (n : Nat) (hk : k.bits = n) (hw : ∀ m : Nat, m < 2 ^ n → k.wrap (m : Int) = m) (x y : Nat) (hx : x < 2 ^ n) (hy : y < 2 ^ n) : Go.bits .xor k (x : Int) (y : Int) = ((x ^^^ y : Nat) : Int) := by
  subst hk
  show k.wrap ((BitVec.ofInt k.bits (x : Int) ^^^ BitVec.ofInt k.bits (y : Int)).toNat : Int) = _
  have h1 : (BitVec.ofInt k.bits (x : Int)).toNat = x := by rw [BitVec.ofInt_natCast, BitVec.toNat_ofNat]; exact Nat.mod_eq_of_lt hx
  have h2 : (BitVec.ofInt k.bits (y : Int)).toNat = y := by rw [BitVec.ofInt_natCast, BitVec.toNat_ofNat]; exact Nat.mod_eq_of_lt hy
  rw [BitVec.toNat_xor, h1, h2]
  exact hw _ (Nat.xor_lt_two_pow hx hy)
theorem xor32 (x y : Nat) (hx : x < 4294967296) (hy : y < 4294967296) : Go.bits .xor .u32 (x : Int) (y : Int) = ((x ^^^ y : Nat) : Int) :=
  xor_nat .u32 32 rfl (fun m h => by simp [IntKind.wrap, IntKind.bits, IntKind.signed]; omega) x y hx hy
theorem xor8 (x y : Nat) (hx : x < 256) (hy : y < 256) : Go.bits .xor .u8 (x : Int) (y : Int) = ((x ^^^ y : Nat) : Int) :=
  xor_nat .u8 8 rfl (fun m h => by simp [IntKind.wrap, IntKind.bits, IntKind.signed]; omega) x y hx hy
end Go.Proofs.YtloojhhjljneeaaDoor.Cr

/- crc.Make, (*Table).Update, Sum; field.sum: the walks. -/
namespace Go.Proofs.YtloojhhjljneeaaDoor.Cr
set_option linter.unusedVariables false
set_option linter.unusedSimpArgs false
open Go Go.RowKit Go.Proofs.YtloojhhjljneeaaDoor.P Go.Proofs.YtloojhhjljneeaaDoor.B Go.Proofs.YtloojhhjljneeaaDoor.Ar Go.Proofs.YtloojhhjljneeaaDoorW.PrintWords Go.Proofs.YtloojhhjljneeaaDoorW.PrintLast Go.Proofs.YtloojhhjljneeaaDoorW.PrintMore
theorem and1 (x : Nat) (hx : x < 4294967296) : Go.bits .and .u32 (x : Int) 1 = ((x % 2 : Nat) : Int) := by
  show IntKind.u32.wrap ((BitVec.ofInt 32 (x : Int) &&& BitVec.ofInt 32 1).toNat : Int) = _
  have h1 : (BitVec.ofInt 32 (x : Int)).toNat = x := by rw [BitVec.ofInt_natCast, BitVec.toNat_ofNat]; exact Nat.mod_eq_of_lt hx
  have h2 : (BitVec.ofInt 32 1).toNat = 1 := by decide
  rw [BitVec.toNat_and, h1, h2, Nat.and_one_is_mod]
  simp [IntKind.wrap, IntKind.bits, IntKind.signed]
  omega
theorem step_f (n : Nat) (h : n < 4294967296) : crc_step.f (n : Int) = some ((stepN n : Nat) : Int) := by
  unfold crc_step.f stepN
  rw [and1 n h]
  by_cases hp : n % 2 = 1
  · rw [if_pos (by omega), if_pos hp, show (n : Int) / 2 = ((n / 2 : Nat) : Int) by omega, show (3988292384 : Int) = ((3988292384 : Nat) : Int) from rfl, xor32 _ _ (by omega) (by omega)]
  · rw [if_neg (by omega), if_neg hp, show (n : Int) / 2 = ((n / 2 : Nat) : Int) by omega]
/-- The table, of which j rows are done. -/
def tabI (j : Nat) : List Int := (List.range 256).map fun i => if i < j then ((stepsN i 8 : Nat) : Int) else 0
theorem tabI_len (j : Nat) : (tabI j).length = 256 := by simp [tabI]
theorem tabI_get (j i : Nat) (hi : i < 256) : (tabI j).getD i 0 = if i < j then ((stepsN i 8 : Nat) : Int) else 0 := by
  unfold tabI
  rw [List.getD_eq_getElem?_getD, List.getElem?_map, List.getElem?_range hi]
  rfl
theorem tabI_set (j : Nat) (hj : j < 256) : (tabI j).set j ((stepsN j 8 : Nat) : Int) = tabI (j + 1) := by
  apply List.ext_getElem?
  intro i
  rw [List.getElem?_set]
  unfold tabI
  rw [List.getElem?_map, List.getElem?_map]
  by_cases hi : i < 256
  · rw [List.getElem?_range hi]
    by_cases h : j = i
    · subst h; rw [if_pos rfl, if_pos (by simpa using hj)]; simp
    · rw [if_neg h]
      simp only [Option.map_some, Option.some.injEq]
      by_cases h2 : i < j
      · rw [if_pos h2, if_pos (by omega)]
      · rw [if_neg h2, if_neg (by omega)]
  · have hn : (List.range 256)[i]? = none := List.getElem?_eq_none (by simp; omega)
    rw [hn, if_neg (by omega)]; rfl
theorem zeroT (w : World) : (zeroValue 73).run Tryd.prog w = .ok (.agg (ints .u32 (tabI 0)).toArray) w := by kernel_rfl
theorem results_row {fn : Func} {t : Tmp} {T : TypeId} (h : fn.results = #[.cell t T]) (tmps : Array Value) (P : Program) (w : World) (g : Nat) (cs : List Value) (d : TypeDesc)
    (h1 : tmps.getD t undef = .pointer (some ⟨g, 0, none⟩)) (hc : w.rangeAt g 0 cs) (hu : P.underlying T = some d) (hd : d.isRow = true) (hi : (P.info? T).map (·.size) = some cs.length) :
    (results fn tmps).run P w = .ok (.agg cs.toArray) w := by
  rw [Array.getD_eq_getD_getElem?] at h1
  simp [results, h, h1, asAddr, run_loadVar_mid w g 0 T cs d hc hu hd hi]
theorem infoT : (Tryd.prog.info? 73).map (·.size) = some 256 := by kernel_rfl
set_option maxHeartbeats 4000000 in
set_option maxRecDepth 100000 in
theorem make_calls (w : World) : Calls Tryd.prog 34 #[] w fun e w' => e = .returned (.agg (ints .u32 (tabI 256)).toArray) ∧ Below w.heap.size w w' := by
  have hz := zeroT
  go_enter Tryd.func34, Tryd.ntmps34
  go_upto_region 2 with (fail)
  have HA := Aside0.mk ((Arr.new w 73 .u32 (tabI 0)).alloc (.cells (ints .u32 (tabI 0)).toArray 73))
  have HN := Aside0.mk (Arr.new (w.alloc (.cells (ints .u32 (tabI 0)).toArray 73)) 73 .u32 (tabI 0))
  have HB := Aside0.mk (below_alloc (below_alloc (Below.refl w.heap.size w) (.cells (ints .u32 (tabI 0)).toArray 73)) (.cells (ints .u32 (tabI 0)).toArray 73))
  have hs1 : (w.alloc (.cells (ints .u32 (tabI 0)).toArray 73)).heap.size = w.heap.size + 1 := by simp
  rw [hs1] at HN
  generalize (w.alloc (.cells (ints .u32 (tabI 0)).toArray 73)).alloc (.cells (ints .u32 (tabI 0)).toArray 73) = w2 at HA HN HB ⊢
  clear hs1 hz
  obtain ⟨gN, hgN⟩ : ∃ g, w.heap.size + 1 = g := ⟨_, rfl⟩
  rw [hgN] at HN ⊢
  have HG := Aside0.mk hgN
  clear hgN
  go_wp2
  go_loopw [4] (fun v4 wr => ∃ j : Nat, v4 = .int .i64 j ∧ j ≤ 256 ∧ Aside0 (Arr wr w.heap.size 73 .u32 (tabI 0)) ∧ Aside0 (Arr wr gN 73 .u32 (tabI j)) ∧ Aside0 (Below w.heap.size w wr))
    (fun v _ => 256 - (intOf v).toNat)
  case atStart => exact ⟨0, rfl, by omega, HA, HN, HB⟩
  case round =>
    clear HA HN HB
    obtain ⟨j, rfl, hj, HA, HN, HB⟩ := hrel
    by_cases hlt : j < 256
    · have hd : decide ((j : Int) < 256) = true := decide_eq_true (by omega)
      have hd2 : decide (j < 256) = true := decide_eq_true hlt
      go_wp2
      go_loopw [3, 9] (fun v3 v9 wx => ∃ k : Nat, v9 = .int .i64 k ∧ k ≤ 8 ∧ v3 = .int .u32 ((stepsN j k : Nat) : Int) ∧ Aside0 (Arr wx w.heap.size 73 .u32 (tabI 0)) ∧ Aside0 (Arr wx gN 73 .u32 (tabI j)) ∧ Aside0 (Below w.heap.size w wx))
        (fun _ v _ => 8 - (intOf v).toNat)
      case atStart => exact ⟨0, rfl, by omega, rfl, HA, HN, HB⟩
      case round =>
        clear HA HN HB
        obtain ⟨k, rfl, hk, rfl, HA, HN, HB⟩ := hrel
        by_cases hlk : k < 8
        · have hdk : decide ((k : Int) < 8) = true := decide_eq_true (by omega)
          have hdk2 : decide (k < 8) = true := decide_eq_true hlk
          have HST := Aside0.mk (step_f (stepsN j k) (stepsN_lt j (by omega) k))
          go_wp2_with (go_at_call 40; refine (crc_step.calls _ _ _ HST.out).mono ?_; rintro e w3 ⟨rfl, ⟨nd, rfl⟩⟩)
          refine ⟨⟨k + 1, by go_num, by omega, rfl, ⟨HA.out.drewN nd⟩, ⟨HN.out.drewN nd⟩, ⟨pw_below_drewN HB.out nd⟩⟩, by simp [intOf]; omega⟩
        · have hdk : decide ((k : Int) < 8) = false := decide_eq_false (by omega)
          have hdk2 : decide (k < 8) = false := decide_eq_false hlk
          obtain rfl : k = 8 := by omega
          have hl := tabI_len j
          have hcell := HN.out.cell j (by omega)
          have hfr := HN.out.frozen j
          have hst := tabI_set j hlt
          have HST := Aside0.mk hst
          clear hst hl
          obtain ⟨x, hx⟩ : ∃ x, stepsN j 8 = x := ⟨_, rfl⟩
          rw [hx] at HST ⊢
          go_wp2
          have hg := HG.out
          refine ⟨⟨j + 1, by go_num, by omega, ⟨HA.out.far (by show w.heap.size ≠ gN; omega) _⟩, ⟨by rw [← HST.out]; exact HN.out.set _ _⟩, ⟨below_set HB.out (by show w.heap.size ≤ gN; omega)⟩⟩, by simp [intOf]; omega⟩
    · have hd : decide ((j : Int) < 256) = false := decide_eq_false (by omega)
      have hd2 : decide (j < 256) = false := decide_eq_false hlt
      obtain rfl : j = 256 := by omega
      have hlen := tabI_len 256
      have hil : (ints .u32 (tabI 256)).length = 256 := by rw [ints_len, hlen]
      have hrg := HN.out.range
      have hi : (Tryd.prog.info? 73).map (·.size) = some (ints .u32 (tabI 256)).length := by rw [hil]; exact infoT
      have ht0 : wr.there w.heap.size 0 (ints .u32 (tabI 256)).toArray.size := by have := HA.out.there; rw [tabI_len] at this; simpa [hil] using this
      have hone : (ints .u32 (tabI 256)).toArray.all (·.oneCell') = true := by
        rw [Array.all_eq_true_iff_forall_mem]
        intro v hv
        obtain ⟨z, _, rfl⟩ := List.mem_map.1 (by simpa [ints] using hv : v ∈ (tabI 256).map (Value.int .u32))
        rfl
      have hi2 : (Tryd.prog.info? 73).map (·.size) = some (ints .u32 (tabI 256)).toArray.size := by simpa using hi
      have HT0 := Aside0.mk ht0
      have HI := Aside0.mk hi
      have HI2 := Aside0.mk hi2
      have HRG := Aside0.mk hrg
      have HONE := Aside0.mk hone
      clear ht0 hone hlen hil hrg hi hi2
      obtain ⟨cs, hcs⟩ : ∃ cs, ints .u32 (tabI 256) = cs := ⟨_, rfl⟩
      rw [hcs] at HT0 HI HI2 HRG HONE
      have HCS := Aside0.mk hcs
      clear hcs
      go_wp2_with (first
        | ((with_reducible refine gate_dst (N := 18) rfl ?_); refine wpList_load_mid rfl 73 (.tmp 1) rfl gN 0 rfl cs _ HRG.out Tryd.underlying73 rfl HI.out ?_)
        | ((with_reducible refine gate_store (t := 73) (p := 0) (v := .tmp 18) rfl ?_); refine wpList_store_mid rfl 73 (.tmp 0) (.tmp 18) rfl w.heap.size 0 cs.toArray rfl rfl HT0.out HI2.out HONE.out ?_))
      refine bodyPost_ret (results_row rfl _ _ _ w.heap.size cs _ rfl (World.rangeAt_setCells_same _ _ _ _ (by have := HT0.out; simpa using this)) Tryd.underlying73 rfl HI.out) rfl ⟨by rw [HCS.out], below_setCells (Nat.le_refl _) _ _ _ HB.out⟩
end Go.Proofs.YtloojhhjljneeaaDoor.Cr

/- (*crc.Table).Update, Sum; field.sum: the walks. -/
namespace Go.Proofs.YtloojhhjljneeaaDoor.Cr
set_option linter.unusedVariables false
set_option linter.unusedSimpArgs false
open Go Go.RowKit Go.Proofs.YtloojhhjljneeaaDoor.P Go.Proofs.YtloojhhjljneeaaDoor.B Go.Proofs.YtloojhhjljneeaaDoor.Ar Go.Proofs.YtloojhhjljneeaaDoorW.PrintWords Go.Proofs.YtloojhhjljneeaaDoorW.PrintLast Go.Proofs.YtloojhhjljneeaaDoorW.PrintMore
theorem foldB_snoc (l : List UInt8) (i : Nat) (h : i < l.length) (x : Nat) : (l.take (i + 1)).foldl (fun x b => byteN x b.toNat) x = byteN ((l.take i).foldl (fun x b => byteN x b.toNat) x) l[i].toNat := by
  rw [List.take_succ_eq_append_getElem h, List.foldl_append]; rfl
theorem xor_full (x : Nat) (h : x < 4294967296) : 4294967295 ^^^ x = 4294967295 - x := by
  apply Nat.eq_of_testBit_eq
  intro i
  rw [Nat.testBit_xor, show 4294967295 - x = 2 ^ 32 - (x + 1) by omega, Nat.testBit_two_pow_sub_succ h, show (4294967295 : Nat) = 2 ^ 32 - 1 from rfl, Nat.testBit_two_pow_sub_one]
  by_cases hi : i < 32
  · simp [hi]
  · have : x.testBit i = false := Nat.testBit_lt_two_pow (Nat.lt_of_lt_of_le h (by calc 4294967296 = 2 ^ 32 := by decide
      _ ≤ 2 ^ i := Nat.pow_le_pow_right (by decide) (by omega)))
    simp [hi, this]
theorem not32 (x : Nat) (h : x < 4294967296) : Go.bits .xor .u32 IntKind.u32.max (x : Int) = ((4294967295 - x : Nat) : Int) := by
  rw [show IntKind.u32.max = ((4294967295 : Nat) : Int) from rfl, xor32 _ _ (by omega) h, xor_full x h]
set_option maxHeartbeats 4000000 in
set_option maxRecDepth 100000 in
theorem update_calls (g : Nat) (s : ByteArray) (W : World) (hA : Arr W g 73 .u32 (tabI 256)) (hs : s.size ≤ 1000000) :
    Calls Tryd.prog 41 #[.pointer (some ⟨g, 0, none⟩), .int .u32 0, .string s] W fun e W' => e = .returned (.int .u32 ((sumN s.data.toList : Nat) : Int)) ∧ Below W.heap.size W W' := by
  have HA := Aside0.mk hA
  clear hA
  go_enter Tryd.func41, Tryd.ntmps41
  go_wp2
  have HB := Aside0.mk (Below.refl W.heap.size W)
  go_loopw [1, 16] (fun v1 v16 wr => ∃ i : Nat, v16 = .int .i64 i ∧ i ≤ s.size ∧ v1 = .int .u32 (((s.data.toList.take i).foldl (fun x b => byteN x b.toNat) 4294967295 : Nat) : Int) ∧ Aside0 (Below W.heap.size W wr))
    (fun _ v _ => s.size - (intOf v).toNat)
  case atStart => exact ⟨0, rfl, by omega, rfl, HB⟩
  case round =>
    clear HB
    obtain ⟨i, rfl, hi, rfl, HB⟩ := hrel
    have hfl := fold_lt (s.data.toList.take i) 4294967295 (by omega)
    by_cases hlt : i < s.size
    · have hd : decide (i < s.size) = true := decide_eq_true hlt
      have hlt2 : i < s.data.toList.length := by simpa using hlt
      have hsn := foldB_snoc s.data.toList i hlt2 4294967295
      have hx0 : ∀ h : i < s.size, ((s[i]'h).toNat : Int) = bt s i := bt_at s i
      have hb := bt_nat s i (by simpa using hlt)
      have hbl := (s.data.toList[i]).toNat_lt
      obtain ⟨x, hx⟩ : ∃ x, (s.data.toList.take i).foldl (fun x b => byteN x b.toNat) 4294967295 = x := ⟨_, rfl⟩
      obtain ⟨b, hbb⟩ : ∃ b, (s.data.toList[i]).toNat = b := ⟨_, rfl⟩
      rw [hx] at hfl hsn ⊢
      rw [hbb] at hb hbl hsn
      rw [hb] at hx0
      have HSN := Aside0.mk hsn
      clear hx hbb hb hsn
      have p0 := eq_true (show (0 : Int) ≤ (i : Int) by omega)
      have p1 := eq_true (show (i : Int) < (s.size : Int) by omega)
      have e1 : (x : Int) % 256 = ((x % 256 : Nat) : Int) := by omega
      have e2 := xor8 (x % 256) b (Nat.mod_lt _ (by decide)) hbl
      have hz : x % 256 ^^^ b < 256 := Nat.xor_lt_two_pow (n := 8) (Nat.mod_lt _ (by decide)) hbl
      have e3 := byteN_tab x b hbl
      obtain ⟨z, hzz⟩ : ∃ z, x % 256 ^^^ b = z := ⟨_, rfl⟩
      rw [hzz] at e2 e3 hz
      have hcell := (Arr.below HA.out HB.out).cell z (by rw [tabI_len]; exact hz)
      rw [tabI_get 256 z hz, if_pos hz] at hcell
      have hsz := stepsN_lt z (by omega) 8
      have e4 := xor32 (stepsN z 8) (x / 256) hsz (by omega)
      rw [← e3] at e4
      have HSN2 := Aside0.mk HSN.out
      have hy := byteN_lt x b hfl hbl
      obtain ⟨y, hyy⟩ : ∃ y, byteN x b = y := ⟨_, rfl⟩
      rw [hyy] at e4 hy HSN
      obtain ⟨u, huu⟩ : ∃ u, stepsN z 8 = u := ⟨_, rfl⟩
      rw [huu] at e4 hcell hsz
      rw [← e1] at e2
      rw [show ((x / 256 : Nat) : Int) = (x : Int) / 256 by omega] at e4
      clear e1 e3 hzz hyy huu HSN2
      go_upto_region 8 with (fail)
      go_region
      go_wp2
      go_roundw
      case rel => exact ⟨i + 1, by go_num, by omega, by rw [HSN.out], ⟨pw_below_drewN HB.out 1⟩⟩
      case measure => simp [intOf]; omega
    · have hd : decide (i < s.size) = false := decide_eq_false hlt
      obtain rfl : i = s.size := by omega
      rw [List.take_of_length_le (by simp)] at hfl ⊢
      have hsm : sumN s.data.toList = 4294967295 - s.data.toList.foldl (fun x b => byteN x b.toNat) 4294967295 := rfl
      obtain ⟨x, hx⟩ : ∃ x, s.data.toList.foldl (fun x b => byteN x b.toNat) 4294967295 = x := ⟨_, rfl⟩
      rw [hx] at hfl hsm ⊢
      have HSM := Aside0.mk hsm
      clear hx hsm
      have hnot := not32 x hfl
      go_wp2
      go_ret
      refine ⟨?_, HB.out⟩
      rw [HSM.out, ← hnot]
      rfl
set_option maxHeartbeats 4000000 in
theorem sum_calls (g : Nat) (s : ByteArray) (W : World) (hA : Arr W g 73 .u32 (tabI 256)) (hs : s.size ≤ 1000000) :
    Calls Tryd.prog 35 #[.pointer (some ⟨g, 0, none⟩), .string s] W fun e W' => e = .returned (.int .u32 ((sumN s.data.toList : Nat) : Int)) ∧ Below W.heap.size W W' := by
  have HA := Aside0.mk hA
  clear hA
  go_enter Tryd.func35, Tryd.ntmps35
  go_wp2_with (go_at_call 41; refine (update_calls g s _ HA.out hs).mono ?_; rintro e w3 ⟨rfl, hb⟩; have HB := Aside0.mk hb; clear hb)
  go_ret
  exact ⟨rfl, HB.out⟩
def setAll (cs : Array Value) (o : Nat) : List Value → Array Value
  | [] => cs
  | v :: r => setAll (cs.setIfInBounds o v) (o + 1) r
theorem blk_setCells (g T : Nat) : ∀ (vs : List Value) (o : Nat) (W : World) (cs : Array Value), W.heap[g]? = some (.cells cs T (0, 0)) → (W.setCells g o vs).heap[g]? = some (.cells (setAll cs o vs) T (0, 0))
  | [], _, _, _, h => h
  | v :: r, o, W, cs, h => blk_setCells g T r (o + 1) _ _ (blk_set h o v)
theorem setAll_get : ∀ (vs : List Value) (o : Nat) (cs : Array Value), o + vs.length ≤ cs.size → ∀ i, (setAll cs o vs)[i]? = if o ≤ i ∧ i < o + vs.length then vs[i - o]? else cs[i]?
  | [], o, cs, _, i => by rw [if_neg (by rw [List.length_nil]; omega)]; rfl
  | v :: r, o, cs, h, i => by
    simp only [List.length_cons] at h ⊢
    rw [setAll, setAll_get r (o + 1) _ (by rw [Array.size_setIfInBounds]; omega) i]
    by_cases h1 : i = o
    · subst h1
      rw [if_neg (by omega), if_pos (by omega), Nat.sub_self, Array.getElem?_setIfInBounds, if_pos rfl, if_pos (by omega)]
      rfl
    · by_cases h2 : o + 1 ≤ i ∧ i < o + 1 + r.length
      · rw [if_pos h2, if_pos (by omega), show i - o = (i - (o + 1)) + 1 by omega, List.getElem?_cons_succ]
      · rw [if_neg h2, if_neg (by omega), Array.getElem?_setIfInBounds, if_neg (by omega)]
theorem setAll_all (vs : List Value) (cs : Array Value) (h : vs.length = cs.size) : setAll cs 0 vs = vs.toArray := by
  apply Array.ext_getElem?
  intro i
  rw [setAll_get vs 0 cs (by omega) i]
  by_cases hi : i < vs.length
  · rw [if_pos (by omega)]; simp
  · rw [if_neg (by omega), Array.getElem?_eq_none (by omega)]; simp; omega
set_option maxHeartbeats 4000000 in
set_option maxRecDepth 100000 in
theorem fsum_calls (s : ByteArray) (w : World) (hs : s.size ≤ 1000000) :
    Calls Tryd.prog 23 #[.string s] w fun e W' => e = .returned (.int .u32 ((sumN s.data.toList : Nat) : Int)) ∧ Below w.heap.size w W' := by
  have hz := zeroT
  have hil : (ints .u32 (tabI 256)).length = 256 := by rw [ints_len, tabI_len]
  have hi2 : (Tryd.prog.info? 73).map (·.size) = some (ints .u32 (tabI 256)).toArray.size := by rw [List.size_toArray, hil]; exact infoT
  have hone : (ints .u32 (tabI 256)).toArray.all (·.oneCell') = true := by
    rw [Array.all_eq_true_iff_forall_mem]
    intro v hv
    obtain ⟨z, _, rfl⟩ := List.mem_map.1 (by simpa [ints] using hv : v ∈ (tabI 256).map (Value.int .u32))
    rfl
  have HI2 := Aside0.mk hi2
  have HONE := Aside0.mk hone
  have hset : ∀ W1 : World, Arr ((W1.alloc (.cells (ints .u32 (tabI 0)).toArray 73)).setCells W1.heap.size 0 (ints .u32 (tabI 256)).toArray.toList) W1.heap.size 73 .u32 (tabI 256) := by
    intro W1
    have h0 := blk_setCells W1.heap.size 73 (ints .u32 (tabI 256)).toArray.toList 0 _ _ (heap_alloc_new W1 (.cells (ints .u32 (tabI 0)).toArray 73))
    rw [setAll_all _ _ (by simp [ints_len, tabI_len])] at h0
    exact h0
  clear hil hi2 hone
  go_enter Tryd.func23, Tryd.ntmps23
  go_wp2_with (first
    | (go_at_call 34; refine (make_calls _).mono ?_; rintro e w1 ⟨rfl, hb⟩; have HB := Aside0.mk hb; clear hb)
    | ((with_reducible refine gate_store (t := 73) (p := 3) (v := .tmp 4) rfl ?_); refine wpList_store_mid rfl 73 (.tmp 3) (.tmp 4) rfl w1.heap.size 0 (ints .u32 (tabI 256)).toArray rfl rfl (by have := (Arr.new w1 73 .u32 (tabI 0)).there; rw [tabI_len] at this; simpa [ints_len, tabI_len] using this) HI2.out HONE.out ?_)
    | (go_at_call 35; refine (sum_calls w1.heap.size s _ (hset w1) hs).mono ?_; rintro e w3 ⟨rfl, hb3⟩; have HB3 := Aside0.mk hb3; clear hb3))
  go_ret
  refine ⟨rfl, ?_⟩
  exact below_step (below_setCells HB.out.size _ _ _ (below_alloc HB.out _)) HB3.out
end Go.Proofs.YtloojhhjljneeaaDoor.Cr

/- field.sum: the sum of a name, in the printer's form. -/
namespace Go.Proofs.YtloojhhjljneeaaDoor.P
set_option linter.unusedVariables false
set_option linter.unusedSimpArgs false
open Go Go.RowKit Go.Proofs.YtloojhhjljneeaaDoor.Cr Go.Proofs.YtloojhhjljneeaaDoorW.PrintWords Go.Proofs.YtloojhhjljneeaaDoorW.PrintLast Go.Proofs.YtloojhhjljneeaaDoorW.PrintMore
def field_sum.f (a0 : ByteArray) : Option (Int) := if a0.size ≤ 1000000 then some ((sumN a0.data.toList : Nat) : Int) else none
theorem field_sum.calls (a0 : ByteArray) (r : Int) (w : World) (h : field_sum.f a0 = some r) :
    Calls Tryd.prog 23 #[.string a0] w fun e w' => e = .returned (.int .u32 r) ∧ Below w.heap.size w w' := by
  unfold field_sum.f at h
  split at h
  · injection h with h
    subst h
    exact fsum_calls a0 w (by assumption)
  · cases h
end Go.Proofs.YtloojhhjljneeaaDoor.P

/- utf8.ValidString, laid at this program's own numbers out of the library's contract. Printed by genutf.py. -/
namespace Go.Proofs.YtloojhhjljneeaaDoor.Ut
set_option linter.unusedVariables false
open Go Go.RowKit Go.Shelf Go.Lib Go.Proofs
def hereU : Ren := ⟨fun n => if n = 196 then 24 else if n = 259 then 36 else n, fun n => if n = 0 then 0 else if n = 3 then 3 else if n = 4 then 4 else if n = 5 then 5 else if n = 9 then 9 else if n = 12 then 12 else if n = 46 then 80 else if n = 53 then 30 else if n = 119 then 76 else if n = 138 then 78 else if n = 139 then 79 else n, fun n => if n = 3 then 0 else if n = 4 then 1 else n⟩
theorem lays196 : Lays.n196 Tryd.prog hereU where
  mixed := by kernel_rfl
  f196 := (show Tryd.prog.funcs[24]? = some (Body.n196 hereU) from Tryd.func24.trans (congrArg some (by kernel_rfl)))
  f259 := (show Tryd.prog.funcs[36]? = some (Body.n259 hereU) from Tryd.func36.trans (congrArg some (by kernel_rfl)))
  t0 := Tryd.underlying0
  a0 := Tryd.isAgg0
  z0 := Tryd.sizeOf0
  v0 := Tryd.zeroValue0
  t3 := Tryd.underlying3
  a3 := Tryd.isAgg3
  z3 := Tryd.sizeOf3
  v3 := Tryd.zeroValue3
  t4 := Tryd.underlying4
  a4 := Tryd.isAgg4
  z4 := Tryd.sizeOf4
  v4 := Tryd.zeroValue4
  t5 := Tryd.underlying5
  a5 := Tryd.isAgg5
  z5 := Tryd.sizeOf5
  v5 := Tryd.zeroValue5
  t9 := Tryd.underlying9
  a9 := Tryd.isAgg9
  z9 := Tryd.sizeOf9
  v9 := Tryd.zeroValue9
  t12 := Tryd.underlying12
  a12 := Tryd.isAgg12
  z12 := Tryd.sizeOf12
  v12 := Tryd.zeroValue12
  t46 := Tryd.underlying80
  a46 := Tryd.isAgg80
  z46 := Tryd.sizeOf80
  v46 := Tryd.zeroValue80
  t53 := Tryd.underlying30
  a53 := Tryd.isAgg30
  z53 := Tryd.sizeOf30
  v53 := Tryd.zeroValue30
  t119 := Tryd.underlying76
  a119 := fun w => by kernel_rfl
  z119 := fun w => by kernel_rfl
  t138 := Tryd.underlying78
  a138 := fun w => by kernel_rfl
  z138 := fun w => by kernel_rfl
  v138 := fun w => by kernel_rfl
  t139 := Tryd.underlying79
  a139 := fun w => by kernel_rfl
  z139 := fun w => by kernel_rfl
  v139 := fun w => by kernel_rfl
  g3 := by kernel_rfl
  g4 := by kernel_rfl
/-- The tables of UTF-8. -/
abbrev Tabs (w : World) : Prop := Lib.Utf8Tabs (hereU.g 3) (hereU.g 4) w
theorem valid_calls (s : ByteArray) (w : World) (hs : s.size ≤ 9223372036854775807) (hT : Tabs w) :
    Calls Tryd.prog 24 #[.string s] w fun e w' => e = .returned (.bool (Lib.validD s.data.toList)) ∧ Below w.heap.size w w' := Any.utf8_ValidString lays196 s w hs hT
theorem extraU : U8Extra Tryd.prog hereU where
  n3 := by kernel_rfl
  n4 := by kernel_rfl
  y3 := by kernel_rfl
  y4 := by kernel_rfl
  c5 := by kernel_rfl
  c119 := by kernel_rfl
  c138 := by kernel_rfl
end Go.Proofs.YtloojhhjljneeaaDoor.Ut

/- What the rows list: the tables of UTF-8. -/
namespace Go.Proofs.YtloojhhjljneeaaDoor.Ut
open Go Go.RowKit Go.Shelf Go.Lib Go.Proofs
theorem firstDatum : (Rows.laid_unicode_utf8_first : DataW Unit) = Lib.firstData := by kernel_rfl
theorem acceptDatum : (Rows.laid_unicode_utf8_acceptRanges : DataW Unit) = Lib.acceptData := by kernel_rfl
theorem tabs_of_laid {W : World} (hL : laidMet Tryd.prog [("unicode/utf8.acceptRanges", Rows.laid_unicode_utf8_acceptRanges), ("unicode/utf8.first", Rows.laid_unicode_utf8_first)] W) : Tabs W := by
  have h4 := Lib.laidMet.reads hL (List.mem_cons_self ..)
  have h3 := Lib.laidMet.reads hL (List.mem_cons_of_mem _ (List.mem_cons_self ..))
  rw [acceptDatum] at h4
  rw [firstDatum] at h3
  exact utf8Tabs_of_readsT (U8Types.of196 lays196) extraU h3 h4
end Go.Proofs.YtloojhhjljneeaaDoor.Ut

/- What the reference's reading of a number comes to: plain Lean. -/
namespace Go.Proofs.YtloojhhjljneeaaDoor.Num
set_option linter.unusedVariables false
set_option linter.unusedSimpArgs false
open Go Go.RowKit Go.Proofs.YtloojhhjljneeaaDoor.P Go.Proofs.YtloojhhjljneeaaDoor.B Go.Proofs.YtloojhhjljneeaaDoorW.PrintWords Go.Proofs.YtloojhhjljneeaaDoorW.PrintLast Go.Proofs.YtloojhhjljneeaaDoorW.PrintMore

theorem ref_number_loop (s : ByteArray) (hs : s.size ≤ 8) : ∀ (i k : Nat), i ≤ s.size → i < k →
    portmanteauref01_Number.l0 k s ((leN (s.data.toList.drop i) : Nat) : Int) ((i : Int) - 1) = some ((leN s.data.toList : Nat) : Int) := by
  have hl : s.data.toList.length = s.size := toList_length s
  intro i
  induction i with
  | zero =>
    intro k hd hk
    obtain ⟨k, rfl⟩ : ∃ m, k = m + 1 := ⟨k - 1, by omega⟩
    simp only [portmanteauref01_Number.l0]
    rw [if_neg (by omega)]
    simp
  | succ i ih =>
    intro k hd hk
    obtain ⟨k, rfl⟩ : ∃ m, k = m + 1 := ⟨k - 1, by omega⟩
    have hlt : i < s.data.toList.length := by omega
    have hb := bt_nat s i hlt
    have ht := leN_lt (s.data.toList.drop i)
    have hp : 256 ^ (s.data.toList.drop i).length ≤ 256 ^ 8 := Nat.pow_le_pow_right (by decide) (by simp; omega)
    have e : leN (s.data.toList.drop i) = (s.data.toList[i]).toNat + 256 * leN (s.data.toList.drop (i + 1)) := by
      rw [List.drop_eq_getElem_cons hlt]; rfl
    have hb2 := UInt8.toNat_lt (s.data.toList[i])
    simp only [portmanteauref01_Number.l0]
    rw [show (((i + 1 : Nat) : Int) - 1) = (i : Int) by omega, if_pos (by omega), if_pos (by omega), if_pos (by omega), hb, wrap_id (by omega) (by omega),
      u64_id (x := ((s.data.toList[i]).toNat : Int)) (by omega) (by omega), u64_id (x := ((leN (s.data.toList.drop (i + 1)) : Nat) : Int) * 256) (by omega) (by omega), u64_id (by omega) (by omega)]
    rw [show ((leN (s.data.toList.drop (i + 1)) : Nat) : Int) * 256 + ((s.data.toList[i]).toNat : Int) = ((leN (s.data.toList.drop i) : Nat) : Int) by omega]
    exact ih k (by omega) (by omega)

theorem ref_number_eq (s : ByteArray) (hs : s.size ≤ 8) (k : Nat) (hk : 8 < k) : portmanteauref01_Number.f k s = some ((leN s.data.toList : Nat) : Int) := by
  have := ref_number_loop s hs s.size k (by omega) (by omega)
  rw [List.drop_of_length_le (by simp)] at this
  unfold portmanteauref01_Number.f
  rw [wrap_id (by omega) (by omega)]
  exact this

end Go.Proofs.YtloojhhjljneeaaDoor.Num

/- Eight bytes: plain Lean. -/
namespace Go.Proofs.YtloojhhjljneeaaDoor.Num
set_option linter.unusedVariables false
set_option linter.unusedSimpArgs false
open Go Go.RowKit Go.Proofs.YtloojhhjljneeaaDoor.P Go.Proofs.YtloojhhjljneeaaDoor.B Go.Proofs.YtloojhhjljneeaaDoorW.PrintWords Go.Proofs.YtloojhhjljneeaaDoorW.PrintLast Go.Proofs.YtloojhhjljneeaaDoorW.PrintMore

theorem eight_eq (n : Nat) (hn : n < 2 ^ 64) (k : Nat) (hk : 64 < k) : cursor_Eight.f k (n : Int) = some (strN (ofN 8 n)) := by
  unfold cursor_Eight.f
  rw [of_eq n hn 8 k hk]; rfl
end Go.Proofs.YtloojhhjljneeaaDoor.Num

/- What the reference's writing of a number comes to: plain Lean. -/
namespace Go.Proofs.YtloojhhjljneeaaDoor.Num
set_option linter.unusedVariables false
set_option linter.unusedSimpArgs false
open Go Go.RowKit Go.Proofs.YtloojhhjljneeaaDoor.P Go.Proofs.YtloojhhjljneeaaDoor.B Go.Proofs.YtloojhhjljneeaaDoorW.PrintWords Go.Proofs.YtloojhhjljneeaaDoorW.PrintLast Go.Proofs.YtloojhhjljneeaaDoorW.PrintMore

theorem ref_of_loop (n c : Nat) (a1 : Int) (hc : a1.toNat = c) : ∀ (d k i m : Nat) (xs : List Int), i + d = min c 64 → m = n / 256 ^ i → n < 2 ^ 64 → xs = (ofN i n).map (fun b => (b.toNat : Int)) → d < k →
    portmanteauref01_Of.l0 k (m : Int) a1 xs (i : Int) = some (strN (ofN (min c 64) n)) := by
  intro d
  induction d with
  | zero =>
    intro k i m xs hd hm hn hx hk
    obtain ⟨k, rfl⟩ : ∃ m, k = m + 1 := ⟨k - 1, by omega⟩
    have hs : strOfNums xs = strN (ofN (min c 64) n) := by
      rw [show min c 64 = i by omega]; exact strN_eq _ _ hx
    simp only [portmanteauref01_Of.l0]
    by_cases h1 : (i : Int) < a1
    · rw [if_pos h1, if_neg (by omega), hs]
    · rw [if_neg h1, hs]
  | succ d ih =>
    intro k i m xs hd hm hn hx hk
    obtain ⟨k, rfl⟩ : ∃ m, k = m + 1 := ⟨k - 1, by omega⟩
    have hlen : xs.length = i := by rw [hx]; simp [ofN_length]
    have hm2 : m < 18446744073709551616 := by
      have : n / 256 ^ i ≤ n := Nat.div_le_self _ _
      omega
    simp only [portmanteauref01_Of.l0]
    rw [if_pos (by omega), if_pos (by omega), if_pos (by omega), wrap_id (by omega) (by omega)]
    have e1 : IntKind.u64.wrap (Int.tdiv (m : Int) 256) = ((m / 256 : Nat) : Int) := by
      rw [Int.tdiv_eq_ediv_of_nonneg (by omega), u64_id (by omega) (by omega)]
      simp
    have e2 : Int.tmod (m : Int) 256 % 256 = ((m % 256 : Nat) : Int) := by
      rw [Int.tmod_eq_emod_of_nonneg (by omega)]
      omega
    rw [e1, e2]
    refine ih k (i + 1) (m / 256) _ (by omega) ?_ hn ?_ (by omega)
    · rw [hm, Nat.div_div_eq_div_mul, Nat.pow_succ]
    · rw [hx]
      have : ofN (i + 1) n = ofN i n ++ [UInt8.ofNat (n / 256 ^ i % 256)] := by
        apply List.ext_getElem?
        intro j
        by_cases h1 : j < i
        · rw [List.getElem?_append_left (by simpa [ofN_length] using h1), ofN_get _ _ _ (by omega), ofN_get _ _ _ h1]
        · by_cases h2 : j = i
          · subst h2
            rw [List.getElem?_append_right (by simp [ofN_length]), ofN_get _ _ _ (by omega)]
            simp [ofN_length]
          · rw [List.getElem?_eq_none (by simp [ofN_length]; omega), List.getElem?_eq_none (by simp [ofN_length]; omega)]
      rw [this, List.map_append, ← hm]
      simp

theorem ref_of_eq (n : Nat) (hn : n < 2 ^ 64) (a1 : Int) (k : Nat) (hk : 64 < k) : portmanteauref01_Of.f k (n : Int) a1 = some (strN (ofI n a1)) := by
  unfold portmanteauref01_Of.f ofI
  exact ref_of_loop n a1.toNat a1 rfl (min a1.toNat 64) k 0 n [] (by omega) (by simp) hn rfl (by omega)

end Go.Proofs.YtloojhhjljneeaaDoor.Num

/- Plain: the reference's sum is the program's. -/
namespace Go.Proofs.YtloojhhjljneeaaDoor.Cr
set_option linter.unusedVariables false
set_option linter.unusedSimpArgs false
open Go Go.RowKit Go.Proofs.YtloojhhjljneeaaDoor.P Go.Proofs.YtloojhhjljneeaaDoor.B Go.Proofs.YtloojhhjljneeaaDoorW.PrintWords Go.Proofs.YtloojhhjljneeaaDoorW.PrintLast Go.Proofs.YtloojhhjljneeaaDoorW.PrintMore
theorem rstep_f (n : Nat) (h : n < 4294967296) : portmanteauref02_Step.f (n : Int) = some ((stepN n : Nat) : Int) := by
  unfold portmanteauref02_Step.f stepN
  rw [Int.tmod_eq_emod_of_nonneg (by omega), Int.tdiv_eq_ediv_of_nonneg (by omega)]
  by_cases hp : n % 2 = 1
  · rw [if_pos (by omega), if_pos hp, show (n : Int) / 2 % 4294967296 = ((n / 2 : Nat) : Int) by omega, show (3988292384 : Int) = ((3988292384 : Nat) : Int) from rfl, xor32 _ _ (by omega) (by omega)]
  · rw [if_neg (by omega), if_neg hp, show (n : Int) / 2 % 4294967296 = ((n / 2 : Nat) : Int) by omega]
theorem rbyte_loop (n : Nat) (h : n < 4294967296) : ∀ (d k i : Nat), i + d = 8 → d < k → portmanteauref02_Byte.l0 k ((stepsN n i : Nat) : Int) (i : Int) = some ((stepsN n 8 : Nat) : Int)
  | 0, k, i, hi, hk => by
    obtain ⟨k, rfl⟩ : ∃ m, k = m + 1 := ⟨k - 1, by omega⟩
    obtain rfl : i = 8 := by omega
    rw [portmanteauref02_Byte.l0, if_neg (by omega)]
  | d + 1, k, i, hi, hk => by
    obtain ⟨k, rfl⟩ : ∃ m, k = m + 1 := ⟨k - 1, by omega⟩
    have ih := rbyte_loop n h d k (i + 1) (by omega) (by omega)
    rw [portmanteauref02_Byte.l0, if_pos (by omega), rstep_f _ (stepsN_lt n h i), Option.bind_some, wrap_id (by omega) (by omega)]
    exact ih
theorem rbyte_f (n k : Nat) (h : n < 4294967296) (hk : 8 < k) : portmanteauref02_Byte.f k (n : Int) = some ((stepsN n 8 : Nat) : Int) := by
  unfold portmanteauref02_Byte.f
  exact rbyte_loop n h 8 k 0 (by omega) hk
theorem rup_loop (s : ByteArray) (hs : s.size ≤ 1000000) : ∀ (d k i x : Nat), i + d = s.size → d + 9 < k → x < 4294967296 → portmanteauref02_Update.l0 k (x : Int) s (i : Int) = some ((4294967295 - (s.data.toList.drop i).foldl (fun x b => byteN x b.toNat) x : Nat) : Int)
  | 0, k, i, x, hi, hk, hx => by
    obtain ⟨k, rfl⟩ : ∃ m, k = m + 1 := ⟨k - 1, by omega⟩
    rw [portmanteauref02_Update.l0, if_neg (by omega), List.drop_of_length_le (by simp; omega)]
    simp only [List.foldl_nil, Option.some.injEq]
    omega
  | d + 1, k, i, x, hi, hk, hx => by
    obtain ⟨k, rfl⟩ : ∃ m, k = m + 1 := ⟨k - 1, by omega⟩
    have hlt : i < s.data.toList.length := by simpa using (by omega : i < s.size)
    have hb := bt_nat s i hlt
    have hbl := (s.data.toList[i]).toNat_lt
    have hby := byteN_lt x (s.data.toList[i]).toNat hx hbl
    have ih := rup_loop s hs d k (i + 1) (byteN x (s.data.toList[i]).toNat) (by omega) (by omega) hby
    rw [portmanteauref02_Update.l0, if_pos (by omega), if_pos (by omega), hb, show (((s.data.toList[i]).toNat : Nat) : Int) % 4294967296 = (((s.data.toList[i]).toNat : Nat) : Int) by omega, xor32 _ _ hx (by omega), rbyte_f _ k (Nat.xor_lt_two_pow (n := 32) hx (by omega)) (by omega), Option.bind_some, wrap_id (by omega) (by omega), List.drop_eq_getElem_cons hlt, List.foldl_cons]
    exact ih
theorem rsum_f (s : ByteArray) (k : Nat) (hs : s.size ≤ 1000000) (hk : s.size + 9 < k) : portmanteauref02_Sum.f k s = some ((sumN s.data.toList : Nat) : Int) := by
  unfold portmanteauref02_Sum.f portmanteauref02_Update.f
  have h := rup_loop s hs s.size k 0 4294967295 (by omega) hk (by omega)
  rw [show ((4294967295 : Int) - 0) % 4294967296 = ((4294967295 : Nat) : Int) from rfl, show (0 : Int) = ((0 : Nat) : Int) from rfl, h]
  rfl
end Go.Proofs.YtloojhhjljneeaaDoor.Cr
