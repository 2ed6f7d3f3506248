/- Several texts in one (merge.py): Stamps: what both programs parse and print is one thing: plain Lean.; Zip64: what both programs parse and print of its numbers is one thing: plain Lean.; field.ParsePath: the walk; what it tells.; Plain: the reference's Strays and the library's ValidString tell the same.; Plain: the reference parses and prints paths as the program does.; Plain: what is printed is parsed as it was.; What the data of a law's argument say of the memory: for any type that is made of whole numbers, bools, strings, structs and slices.; The program's ParseWide: four numbers through pointers into a struct: the walk. -/
import Derived.Test.YtloojhhjljneeaaDoorMg1
import Derived.Test.YtloojhhjljneeaaDoorPx11
import Derived.Test.YtloojhhjljneeaaDoorPx12
import Derived.Test.YtloojhhjljneeaaDoorPx2
import Derived.Test.YtloojhhjljneeaaDoorPx3
import Derived.Test.YtloojhhjljneeaaDoorPx10
import Derived.Lib.ValidLaws
import Derived.Test.YtloojhhjljneeaaDoorPx4
import Derived.Test.YtloojhhjljneeaaDoorPx5
import Derived.Test.YtloojhhjljneeaaDoorPx6
import Derived.Test.YtloojhhjljneeaaDoorPx8
import Derived.Test.YtloojhhjljneeaaDoorPx9
import Derived.Test.YtloojhhjljneeaaDoorPx1
import Derived.Test.YtloojhhjljneeaaDoorPx13
import Derived.Test.YtloojhhjljneeaaDoorWMore
import Derived.ChangeArms
import Derived.DataReads
import Derived.SizedLaws
import Derived.WideShapes
/- Stamps: what both programs parse and print is one thing: plain Lean. -/
namespace Go.Proofs.YtloojhhjljneeaaDoor.St
set_option linter.unusedVariables false
set_option linter.unusedSimpArgs false
open Go Go.RowKit Go.Proofs.YtloojhhjljneeaaDoor.P Go.Proofs.YtloojhhjljneeaaDoor.B Go.Proofs.YtloojhhjljneeaaDoor.Num Go.Proofs.YtloojhhjljneeaaDoor.Cur Go.Proofs.YtloojhhjljneeaaDoorW.PrintWords Go.Proofs.YtloojhhjljneeaaDoorW.PrintLast Go.Proofs.YtloojhhjljneeaaDoorW.PrintMore

/-- Four bytes as a signed number. -/
def i32 (n : Nat) : Int := if n < 2147483648 then (n : Int) else (n : Int) - 4294967296
theorem wrap32_nat (n : Nat) (h : n < 4294967296) : wrap32 (n : Int) = i32 n := by
  unfold i32 wrap32; split <;> omega
/-- Is time number i told? -/
def told (f i : Nat) (c : Bool) : Bool := decide (f / 2 ^ i % 2 = 1) && (decide (i = 0) || !c)
/-- What is parsed, from time number i on, d of them. -/
def rest (f : Nat) (c : Bool) : Nat → Nat → List UInt8 → Int → Int → Int → Int × Int × Int × Int × Int
  | 0, _, R, x0, x1, x2 => if R ≠ [] ∧ c = false then (0, 0, 0, 0, 24) else ((f : Int), x0, x1, x2, 0)
  | d + 1, i, R, x0, x1, x2 =>
    if told f i c = true then
      (if R.length < 4 then (0, 0, 0, 0, 24) else rest f c d (i + 1) (R.drop 4) (if i = 0 then i32 (leN (R.take 4)) else x0) (if i = 1 then i32 (leN (R.take 4)) else x1) (if i = 2 then i32 (leN (R.take 4)) else x2))
    else rest f c d (i + 1) R x0 x1 x2
theorem rest_skip {f d i : Nat} {c : Bool} {R : List UInt8} {x0 x1 x2 : Int} (h : told f i c = false) : rest f c (d + 1) i R x0 x1 x2 = rest f c d (i + 1) R x0 x1 x2 := by
  rw [rest, h]; rfl
theorem rest_short {f d i : Nat} {c : Bool} {R : List UInt8} {x0 x1 x2 : Int} (h : told f i c = true) (hl : R.length < 4) : rest f c (d + 1) i R x0 x1 x2 = (0, 0, 0, 0, 24) := by
  rw [rest, if_pos h, if_pos hl]
theorem rest_take {f d i : Nat} {c : Bool} {R : List UInt8} {x0 x1 x2 : Int} (h : told f i c = true) (hl : ¬ R.length < 4) :
    rest f c (d + 1) i R x0 x1 x2 = rest f c d (i + 1) (R.drop 4) (if i = 0 then i32 (leN (R.take 4)) else x0) (if i = 1 then i32 (leN (R.take 4)) else x1) (if i = 2 then i32 (leN (R.take 4)) else x2) := by
  rw [rest, if_pos h, if_neg hl]
theorem and_bit (f j : Nat) (hf : f < 256) (hj : j = 1 ∨ j = 2 ∨ j = 4) : Go.bits .and .u8 (f : Int) (j : Int) = ((f &&& j : Nat) : Int) :=
  (bits_nat .u8 8 (by decide) (fun n h0 h1 => by simp [IntKind.wrap, IntKind.bits, IntKind.signed]; omega) f j (by omega) (by omega)).1
theorem land1 : ∀ f : Nat, f < 256 → (f &&& 1 = 0 ↔ ¬ f / 2 ^ 0 % 2 = 1) := by decide +kernel
theorem land2 : ∀ f : Nat, f < 256 → (f &&& 2 = 0 ↔ ¬ f / 2 ^ 1 % 2 = 1) := by decide +kernel
theorem land4 : ∀ f : Nat, f < 256 → (f &&& 4 = 0 ↔ ¬ f / 2 ^ 2 % 2 = 1) := by decide +kernel
theorem land7 : ∀ f : Nat, f < 256 → f &&& 7 = f % 8 := by decide +kernel
theorem and7u (f : Nat) (hf : f < 256) : Go.bits .and .u8 (f : Int) 7 = ((f % 8 : Nat) : Int) := by
  have h := (bits_nat .u8 8 (by decide) (fun n h0 h1 => by simp [IntKind.wrap, IntKind.bits, IntKind.signed]; omega) f 7 (by omega) (by omega)).1
  rw [land7 f hf] at h
  exact h
theorem four_err {s : ByteArray} {a e : Int} (he : e ≠ 0) (k : Nat) (hk : 8 < k) : cursor_Cursor_Four.f k s a e = some (0, s, a, e) := by
  unfold cursor_Cursor_Four.f
  rw [take_bad he, Option.bind_some]
  dsimp only
  rw [number_strN [] (by simp) k hk, Option.bind_some]
  rfl
abbrev Z : Int × Int × Int × Int × Int := (0, 0, 0, 0, 24)
section
variable {s : ByteArray} {a e : Int} {R : List UInt8} {f : Nat} {c : Bool} {x0 x1 x2 : Int}
theorem j4_err (he : e ≠ 0) (y : Int) (k : Nat) (hk : 0 < k) : field_ParseStamp.j4 k c s a e y x0 x1 x2 = some Z := by
  obtain ⟨k, rfl⟩ : ∃ m, k = m + 1 := ⟨k - 1, by omega⟩
  rw [field_ParseStamp.j4]
  unfold cursor_Cursor_Err.f
  rw [Option.bind_some]
  dsimp only
  rw [if_neg he]
theorem j3_err (he : e ≠ 0) (y : Int) (b : Bool) (k : Nat) (hk : 9 < k) : field_ParseStamp.j3 k c b s a e y x0 x1 x2 = some Z := by
  obtain ⟨k, rfl⟩ : ∃ m, k = m + 1 := ⟨k - 1, by omega⟩
  rw [field_ParseStamp.j3]
  split
  · rw [four_err he k (by omega), Option.bind_some]; dsimp only; exact j4_err he y k (by omega)
  · exact j4_err he y k (by omega)
theorem j2_err (he : e ≠ 0) (y : Int) (k : Nat) (hk : 10 < k) : field_ParseStamp.j2 k c s a e y x0 x1 x2 = some Z := by
  obtain ⟨k, rfl⟩ : ∃ m, k = m + 1 := ⟨k - 1, by omega⟩
  rw [field_ParseStamp.j2]
  split <;> exact j3_err he y _ k (by omega)
theorem j1_err (he : e ≠ 0) (y : Int) (b : Bool) (k : Nat) (hk : 11 < k) : field_ParseStamp.j1 k c b s a e y x0 x1 x2 = some Z := by
  obtain ⟨k, rfl⟩ : ∃ m, k = m + 1 := ⟨k - 1, by omega⟩
  rw [field_ParseStamp.j1]
  split
  · rw [four_err he k (by omega), Option.bind_some]; dsimp only; exact j2_err he y k (by omega)
  · exact j2_err he y k (by omega)
theorem j0_err (he : e ≠ 0) (y : Int) (k : Nat) (hk : 12 < k) : field_ParseStamp.j0 k c s a e y x0 x1 x2 = some Z := by
  obtain ⟨k, rfl⟩ : ∃ m, k = m + 1 := ⟨k - 1, by omega⟩
  rw [field_ParseStamp.j0]
  split <;> exact j1_err he y _ k (by omega)
theorem j4_ok (h : At s a R) (k : Nat) (hk : 0 < k) : field_ParseStamp.j4 k c s a 0 f x0 x1 x2 = some (if 7 < f then Z else rest f c 0 3 R x0 x1 x2) := by
  obtain ⟨k, rfl⟩ : ∃ m, k = m + 1 := ⟨k - 1, by omega⟩
  rw [field_ParseStamp.j4]
  unfold cursor_Cursor_Err.f cursor_Cursor_Left.f
  rw [Option.bind_some]
  dsimp only
  rw [if_pos rfl]
  by_cases h7 : 7 < f
  · rw [if_pos (by omega), if_pos h7]
  rw [if_neg (by omega), if_neg h7, Option.bind_some]
  dsimp only
  rw [left_at h, rest]
  by_cases hR : R = []
  · subst hR; simp
  · have : R.length ≠ 0 := by simpa using hR
    rw [if_pos (by omega)]
    cases c <;> simp [hR]
/-- Four bytes more, or none. -/
theorem four_step (h : At s a R) (k : Nat) (hk : 8 < k) : (R.length < 4 ∧ cursor_Cursor_Four.f k s a 0 = some (0, s, a, 3)) ∨ (¬ R.length < 4 ∧ ∃ a', cursor_Cursor_Four.f k s a 0 = some (((leN (R.take 4) : Nat) : Int), s, a', 0) ∧ At s a' (R.drop 4)) := by
  by_cases hl : R.length < 4
  · exact .inl ⟨hl, four_fail h hl k hk⟩
  · have hm : (R.take 4).length = 4 := by rw [List.length_take]; omega
    have h2 : At s a (R.take 4 ++ R.drop 4) := by rw [List.take_append_drop]; exact h
    refine .inr ⟨hl, _, four_at h2 hm k hk, h2.on⟩
theorem le4 (hl : ¬ R.length < 4) : leN (R.take 4) < 4294967296 := by
  have h := leN_lt (R.take 4)
  rw [List.length_take, Nat.min_eq_left (by omega)] at h
  exact h
theorem j2_ok (h : At s a R) (hf : f < 256) (k : Nat) (hk : 10 < k) : field_ParseStamp.j2 k c s a 0 f x0 x1 x2 = some (if 7 < f then Z else rest f c 1 2 R x0 x1 x2) := by
  obtain ⟨k, rfl⟩ : ∃ m, k = m + 1 := ⟨k - 1, by omega⟩
  obtain ⟨k, rfl⟩ : ∃ m, k = m + 1 := ⟨k - 1, by omega⟩
  have hb := and_bit f 4 hf (by omega)
  have hl := land4 f hf
  rw [field_ParseStamp.j2, show (4 : Int) = ((4 : Nat) : Int) from rfl, hb]
  by_cases h4 : f &&& 4 = 0
  · have ht : told f 2 c = false := by unfold told; rw [decide_eq_false (hl.1 h4)]; rfl
    rw [h4, if_pos (by rfl), field_ParseStamp.j3, if_neg (by decide), j4_ok h k (by omega), rest_skip ht]
  · have h1 : f / 2 ^ 2 % 2 = 1 := by false_or_by_contra; exact h4 (hl.2 ‹_›)
    rw [if_neg (by omega), field_ParseStamp.j3]
    cases c with
    | true =>
      have ht : told f 2 true = false := by unfold told; simp
      rw [if_neg (by decide), j4_ok h k (by omega), rest_skip ht]
    | false =>
      have ht : told f 2 false = true := by unfold told; rw [decide_eq_true h1]; rfl
      rw [if_pos (by decide)]
      rcases four_step h k (by omega) with ⟨hl, e⟩ | ⟨hl, a', e, h'⟩
      · rw [e, Option.bind_some]; dsimp only
        rw [j4_err (by decide) _ k (by omega), rest_short ht hl]
        split <;> rfl
      · rw [e, Option.bind_some]; dsimp only
        rw [wrap32_nat _ (le4 hl), j4_ok h' k (by omega), rest_take ht hl]
        rfl
theorem j0_ok (h : At s a R) (hf : f < 256) (k : Nat) (hk : 12 < k) : field_ParseStamp.j0 k c s a 0 f x0 x1 x2 = some (if 7 < f then Z else rest f c 2 1 R x0 x1 x2) := by
  obtain ⟨k, rfl⟩ : ∃ m, k = m + 1 := ⟨k - 1, by omega⟩
  obtain ⟨k, rfl⟩ : ∃ m, k = m + 1 := ⟨k - 1, by omega⟩
  have hb := and_bit f 2 hf (by omega)
  have hl := land2 f hf
  rw [field_ParseStamp.j0, show (2 : Int) = ((2 : Nat) : Int) from rfl, hb]
  by_cases h4 : f &&& 2 = 0
  · have ht : told f 1 c = false := by unfold told; rw [decide_eq_false (hl.1 h4)]; rfl
    rw [h4, if_pos (by rfl), field_ParseStamp.j1, if_neg (by decide), j2_ok h hf k (by omega), rest_skip ht]
  · have h1 : f / 2 ^ 1 % 2 = 1 := by false_or_by_contra; exact h4 (hl.2 ‹_›)
    rw [if_neg (by omega), field_ParseStamp.j1]
    cases c with
    | true =>
      have ht : told f 1 true = false := by unfold told; simp
      rw [if_neg (by decide), j2_ok h hf k (by omega), rest_skip ht]
    | false =>
      have ht : told f 1 false = true := by unfold told; rw [decide_eq_true h1]; rfl
      rw [if_pos (by decide)]
      rcases four_step h k (by omega) with ⟨hl, e⟩ | ⟨hl, a', e, h'⟩
      · rw [e, Option.bind_some]; dsimp only
        rw [j2_err (by decide) _ k (by omega), rest_short ht hl]
        split <;> rfl
      · rw [e, Option.bind_some]; dsimp only
        rw [wrap32_nat _ (le4 hl), j2_ok h' hf k (by omega), rest_take ht hl]
        rfl
/-- What either program parses. -/
def parsed (L : List UInt8) (c : Bool) : Int × Int × Int × Int × Int :=
  match L with
  | [] => Z
  | b :: R => if 7 < b.toNat then Z else rest b.toNat c 3 0 R 0 0 0
theorem parse_eq (s : ByteArray) (c : Bool) (hs : s.size ≤ 1000000) : field_ParseStamp.f 40 s c = some (parsed s.data.toList c) := by
  have hA := At.start s (by omega)
  unfold field_ParseStamp.f cursor_Over.f
  rw [Option.bind_some]
  dsimp only
  rcases hL : s.data.toList with _ | ⟨b, R⟩
  · rw [hL] at hA
    rw [one_fail hA (by simp) 40 (by omega), Option.bind_some]
    dsimp only
    rw [show (0 : Int) = ((0 : Nat) : Int) from rfl, show (1 : Int) = ((1 : Nat) : Int) from rfl, and_bit 0 1 (by omega) (by omega), if_pos (by rfl), j0_err (by decide) _ 40 (by omega)]
    rfl
  · rw [hL] at hA
    have h1 : At s 0 ([b] ++ R) := hA
    have hb := b.toNat_lt
    have hn := h1.on
    rw [one_at h1 rfl 40 (by omega), Option.bind_some, leN_one]
    dsimp only
    have hba := and_bit b.toNat 1 (by omega) (by omega)
    have hl := land1 b.toNat (by omega)
    rw [show (1 : Int) = ((1 : Nat) : Int) from rfl, hba]
    unfold parsed
    by_cases h4 : b.toNat &&& 1 = 0
    · have ht : told b.toNat 0 c = false := by unfold told; rw [decide_eq_false (hl.1 h4)]; rfl
      rw [h4, if_pos (by rfl), j0_ok hn (by omega) 40 (by omega)]
      simp only [rest_skip ht]
    · have h1 : b.toNat / 2 ^ 0 % 2 = 1 := by false_or_by_contra; exact h4 (hl.2 ‹_›)
      have ht : told b.toNat 0 c = true := by unfold told; rw [decide_eq_true h1]; rfl
      rw [if_neg (by omega)]
      rcases four_step hn 40 (by omega) with ⟨hl, e⟩ | ⟨hl, a', e, h'⟩
      · rw [e, Option.bind_some]; dsimp only
        rw [j0_err (by decide) _ 40 (by omega)]
        simp only [rest_short ht hl]
        split <;> rfl
      · rw [e, Option.bind_some]; dsimp only
        rw [wrap32_nat _ (le4 hl), j0_ok h' (by omega) 40 (by omega)]
        simp only [rest_take ht hl]
        rfl
end
/-- What is printed of time number i. -/
def piece (f : Nat) (c : Bool) (x : Int) (i : Nat) : List UInt8 := if told f i c = true then ofN 4 (x % 4294967296).toNat else []
def prints (f : Nat) (c : Bool) (x0 x1 x2 : Int) : List UInt8 := [UInt8.ofNat f] ++ piece f c x0 0 ++ piece f c x1 1 ++ piece f c x2 2
theorem four_of (x : Int) (k : Nat) (hk : 64 < k) : cursor_Four.f k (x % 4294967296) = some (strN (ofN 4 (x % 4294967296).toNat)) := by
  have h := four_eq (x % 4294967296).toNat (by omega) k hk
  rwa [show (((x % 4294967296).toNat : Nat) : Int) = x % 4294967296 by omega] at h
theorem piece_le (f : Nat) (c : Bool) (x : Int) (i : Nat) : (piece f c x i).length ≤ 4 := by
  unfold piece; split
  · rw [ofN_length]; omega
  · simp
theorem print_eq (y : Nat) (hy : y < 256) (x0 x1 x2 : Int) (c : Bool) : field_PrintStamp.f 100 y x0 x1 x2 c = some (strN (prints (y % 8) c x0 x1 x2)) := by
  have h7 := and7u y hy
  obtain ⟨f, hf⟩ : ∃ f, y % 8 = f := ⟨_, rfl⟩
  rw [hf] at h7 ⊢
  have hf8 : f < 256 := by omega
  have b1 := and_bit f 1 hf8 (by omega)
  have b2 := and_bit f 2 hf8 (by omega)
  have b4 := and_bit f 4 hf8 (by omega)
  have l1 := land1 f hf8
  have l2 := land2 f hf8
  have l4 := land4 f hf8
  have hstr : strOfNums [(f : Int)] = strN [UInt8.ofNat f] := strN_eq _ _ (by simp [Nat.mod_eq_of_lt hf8])
  have j0_eq : ∀ P : List UInt8, P.length ≤ 5 → field_PrintStamp.j0 100 c f (strN P) y x0 x1 x2 = some (strN (P ++ piece f c x1 1 ++ piece f c x2 2)) := by
    intro P hP
    rw [show (100 : Nat) = 99 + 1 from rfl, field_PrintStamp.j0, show (2 : Int) = ((2 : Nat) : Int) from rfl, b2]
    have j1_eq : ∀ b : Bool, b = told f 1 c → field_PrintStamp.j1 99 c f (strN P) b y x0 x1 x2 = some (strN (P ++ piece f c x1 1 ++ piece f c x2 2)) := by
      intro b hb
      have hp1 := piece_le f c x1 1
      have hp2 := piece_le f c x2 2
      rw [show (99 : Nat) = 98 + 1 from rfl, field_PrintStamp.j1, show (4 : Int) = ((4 : Nat) : Int) from rfl, b4]
      have tail : ∀ Q : List UInt8, Q.length ≤ 9 → (if ((f &&& 4 : Nat) : Int) = 0 then some (strN Q) else if c = true then some (strN Q) else (cursor_Four.f 98 (x2 % 4294967296)).bind fun t => if (strN Q).size + t.size ≤ 9223372036854775807 then some (strN Q ++ t) else none) = some (strN (Q ++ piece f c x2 2)) := by
        intro Q hQ
        by_cases h4 : f &&& 4 = 0
        · have ht : told f 2 c = false := by unfold told; rw [decide_eq_false (l4.1 h4)]; rfl
          rw [if_pos (by omega)]; unfold piece; rw [ht]; simp
        · have h1 : f / 2 ^ 2 % 2 = 1 := by false_or_by_contra; exact h4 (l4.2 ‹_›)
          rw [if_neg (by omega)]
          cases c with
          | true =>
            have ht : told f 2 true = false := by unfold told; simp
            rw [if_pos rfl]; unfold piece; rw [ht]; simp
          | false =>
            have ht : told f 2 false = true := by unfold told; rw [decide_eq_true h1]; rfl
            rw [if_neg (by decide), four_of x2 98 (by omega), Option.bind_some, strN_size, strN_size, ofN_length, if_pos (by omega), strN_append]
            unfold piece; rw [ht]; rfl
      cases hbv : b with
      | true =>
        have e1 : piece f c x1 1 = ofN 4 (x1 % 4294967296).toNat := by unfold piece; rw [← hb, hbv]; rfl
        rw [if_pos rfl, four_of x1 98 (by omega), Option.bind_some, if_pos (by rw [strN_size, strN_size, ofN_length]; omega), e1]
        have h := tail (P ++ ofN 4 (x1 % 4294967296).toNat) (by rw [List.length_append, ofN_length]; omega)
        rw [← strN_append] at h
        rw [← h]
        simp only [ByteArray.size_append]
      | false =>
        have e1 : piece f c x1 1 = [] := by unfold piece; rw [← hb, hbv]; rfl
        rw [if_neg (by decide), e1, List.append_nil]
        exact tail P (by omega)
    by_cases h4 : f &&& 2 = 0
    · rw [if_pos (by omega)]
      exact j1_eq false (by unfold told; rw [decide_eq_false (l2.1 h4)]; rfl)
    · have h1 : f / 2 ^ 1 % 2 = 1 := by false_or_by_contra; exact h4 (l2.2 ‹_›)
      rw [if_neg (by omega)]
      exact j1_eq (!c) (by unfold told; rw [decide_eq_true h1]; cases c <;> rfl)
  unfold field_PrintStamp.f
  rw [Option.bind_some, h7, show (1 : Int) = ((1 : Nat) : Int) from rfl, b1, hstr]
  unfold prints
  by_cases h4 : f &&& 1 = 0
  · have e1 : piece f c x0 0 = [] := by unfold piece told; rw [decide_eq_false (l1.1 h4)]; rfl
    rw [if_pos (by omega), e1, List.append_nil]
    exact j0_eq _ (by simp)
  · have h1 : f / 2 ^ 0 % 2 = 1 := by false_or_by_contra; exact h4 (l1.2 ‹_›)
    have e1 : piece f c x0 0 = ofN 4 (x0 % 4294967296).toNat := by unfold piece told; rw [decide_eq_true h1]; rfl
    rw [if_neg (by omega), four_of x0 100 (by omega), Option.bind_some, if_pos (by rw [strN_size, strN_size, ofN_length]; simp), e1, strN_append]
    exact j0_eq _ (by simp [ofN_length])
end Go.Proofs.YtloojhhjljneeaaDoor.St

/- Zip64: what both programs parse and print of its numbers is one thing: plain Lean. -/
namespace Go.Proofs.YtloojhhjljneeaaDoor.Wd
set_option linter.unusedVariables false
set_option linter.unusedSimpArgs false
open Go Go.RowKit Go.Proofs.YtloojhhjljneeaaDoor.P Go.Proofs.YtloojhhjljneeaaDoor.B Go.Proofs.YtloojhhjljneeaaDoor.Num Go.Proofs.YtloojhhjljneeaaDoor.Cur Go.Proofs.YtloojhhjljneeaaDoorW.PrintWords Go.Proofs.YtloojhhjljneeaaDoorW.PrintLast Go.Proofs.YtloojhhjljneeaaDoorW.PrintMore

/-- How many bytes number i has. -/
def wid (i : Nat) : Nat := if i = 3 then 4 else 8
theorem wid_le (i : Nat) : wid i = 4 ∨ wid i = 8 := by unfold wid; split <;> simp
abbrev Z : List Int × Int := ([0, 0, 0, 0], 31)
/-- What is parsed from number i on, d of them. -/
def wrest (qs : List Bool) : Nat → Nat → List UInt8 → List Int → List Int × Int
  | 0, _, R, xs => if R = [] then (xs, 0) else Z
  | d + 1, i, R, xs =>
    if qs.getD i false = true then (if R.length < wid i then Z else wrest qs d (i + 1) (R.drop (wid i)) (xs.set i ((leN (R.take (wid i)) : Nat) : Int))) else wrest qs d (i + 1) R xs
theorem wrest_skip {qs : List Bool} {d i : Nat} {R : List UInt8} {xs : List Int} (h : qs.getD i false = false) : wrest qs (d + 1) i R xs = wrest qs d (i + 1) R xs := by
  rw [wrest, h]; rfl
theorem wrest_short {qs : List Bool} {d i : Nat} {R : List UInt8} {xs : List Int} (h : qs.getD i false = true) (hl : R.length < wid i) : wrest qs (d + 1) i R xs = Z := by
  rw [wrest, if_pos h, if_pos hl]
theorem wrest_take {qs : List Bool} {d i : Nat} {R : List UInt8} {xs : List Int} (h : qs.getD i false = true) (hl : ¬ R.length < wid i) : wrest qs (d + 1) i R xs = wrest qs d (i + 1) (R.drop (wid i)) (xs.set i ((leN (R.take (wid i)) : Nat) : Int)) := by
  rw [wrest, if_pos h, if_neg hl]
theorem eight_err {s : ByteArray} {a e : Int} (he : e ≠ 0) (k : Nat) (hk : 8 < k) : cursor_Cursor_Eight.f k s a e = some (0, s, a, e) := by
  unfold cursor_Cursor_Eight.f
  rw [take_bad he, Option.bind_some]
  dsimp only
  rw [number_strN [] (by simp) k hk, Option.bind_some]
  rfl
theorem four_err {s : ByteArray} {a e : Int} (he : e ≠ 0) (k : Nat) (hk : 8 < k) : cursor_Cursor_Four.f k s a e = some (0, s, a, e) := by
  unfold cursor_Cursor_Four.f
  rw [take_bad he, Option.bind_some]
  dsimp only
  rw [number_strN [] (by simp) k hk, Option.bind_some]
  rfl
/-- Where the cursor is, and what will come out. -/
def G (qs : List Bool) (s : ByteArray) (i : Nat) (a e : Int) (xs : List Int) (r : List Int × Int) : Prop :=
  (e = 0 ∧ ∃ R, At s a R ∧ wrest qs (4 - i) i R xs = r) ∨ (e ≠ 0 ∧ r = Z)
section
variable {qs : List Bool} {s : ByteArray} {i : Nat} {a e : Int} {xs : List Int} {r : List Int × Int}
theorem G.start (qs : List Bool) (s : ByteArray) (hs : s.size ≤ 1000000) : G qs s 0 0 0 [0, 0, 0, 0] (wrest qs 4 0 s.data.toList [0, 0, 0, 0]) :=
  .inl ⟨rfl, _, At.start s (by omega), rfl⟩
theorem G.off (h : G qs s i a e xs r) (hi : i < 4) (ha : qs.getD i false = false) : G qs s (i + 1) a e xs r := by
  rcases h with ⟨he, R, hR, hr⟩ | h
  · refine .inl ⟨he, R, hR, ?_⟩
    rw [show 4 - i = 4 - (i + 1) + 1 by omega, wrest_skip ha] at hr
    exact hr
  · exact .inr h
theorem G.eight (h : G qs s i a e xs r) (hi : i < 3) (ha : qs.getD i false = true) : ∃ v a' e', cursor_Cursor_Eight.f 40 s a e = some (v, s, a', e') ∧ G qs s (i + 1) a' e' (xs.set i v) r ∧ 0 ≤ v ∧ v < 18446744073709551616 := by
  have hw : wid i = 8 := by unfold wid; rw [if_neg (by omega)]
  rcases h with ⟨rfl, R, hR, hr⟩ | ⟨he, hr⟩
  · rw [show 4 - i = 4 - (i + 1) + 1 by omega] at hr
    by_cases hl : R.length < 8
    · rw [wrest_short ha (by omega)] at hr
      exact ⟨_, _, _, eight_fail hR hl 40 (by omega), .inr ⟨by decide, hr.symm⟩, by omega, by omega⟩
    · have hm : (R.take 8).length = 8 := by rw [List.length_take]; omega
      have h2 : At s a (R.take 8 ++ R.drop 8) := by rw [List.take_append_drop]; exact hR
      have hlt := leN_lt (R.take 8)
      rw [hm] at hlt
      have hlt2 : leN (R.take 8) < 18446744073709551616 := hlt
      rw [wrest_take ha (by omega), hw] at hr
      exact ⟨_, _, _, eight_at h2 hm 40 (by omega), .inl ⟨rfl, _, h2.on, hr⟩, by omega, by omega⟩
  · exact ⟨_, _, _, eight_err he 40 (by omega), .inr ⟨he, hr⟩, by omega, by omega⟩
theorem G.four (h : G qs s 3 a e xs r) (ha : qs.getD 3 false = true) : ∃ v a' e', cursor_Cursor_Four.f 40 s a e = some (v, s, a', e') ∧ G qs s 4 a' e' (xs.set 3 v) r ∧ 0 ≤ v ∧ v < 4294967296 := by
  have hw : wid 3 = 4 := rfl
  rcases h with ⟨rfl, R, hR, hr⟩ | ⟨he, hr⟩
  · by_cases hl : R.length < 4
    · rw [show 4 - 3 = 0 + 1 from rfl, wrest_short ha (by omega)] at hr
      exact ⟨_, _, _, four_fail hR hl 40 (by omega), .inr ⟨by decide, hr.symm⟩, by omega, by omega⟩
    · have hm : (R.take 4).length = 4 := by rw [List.length_take]; omega
      have h2 : At s a (R.take 4 ++ R.drop 4) := by rw [List.take_append_drop]; exact hR
      have hlt := leN_lt (R.take 4)
      rw [hm] at hlt
      have hlt2 : leN (R.take 4) < 4294967296 := hlt
      rw [show 4 - 3 = 0 + 1 from rfl, wrest_take ha (by omega), hw] at hr
      exact ⟨_, _, _, four_at h2 hm 40 (by omega), .inl ⟨rfl, _, h2.on, hr⟩, by omega, by omega⟩
  · exact ⟨_, _, _, four_err he 40 (by omega), .inr ⟨he, hr⟩, by omega, by omega⟩
theorem G.end_bad (h : G qs s 4 a e xs r) (he : e ≠ 0) : r = Z := by
  rcases h with ⟨h, _⟩ | h
  · exact absurd h he
  · exact h.2
theorem G.end_ok (h : G qs s 4 a 0 xs r) : ∃ L : Nat, wrap64 ((s.size : Int) - a) = L ∧ (0 < L → r = Z) ∧ (L = 0 → r = (xs, 0)) := by
  rcases h with ⟨_, R, hR, hr⟩ | ⟨h, _⟩
  · refine ⟨R.length, left_at hR, fun hl => ?_, fun hl => ?_⟩
    · rw [← hr, show 4 - 4 = 0 from rfl, wrest, if_neg (by intro e; rw [e] at hl; simp at hl)]
    · rw [← hr, show 4 - 4 = 0 from rfl, wrest, if_pos (List.eq_nil_of_length_eq_zero hl)]
  · exact absurd rfl h
end
/-- What is printed of number i. -/
def wpiece (qs : List Bool) (xs : List Int) (i : Nat) : List UInt8 := if qs.getD i false = true then ofN (wid i) (xs.getD i 0).toNat else []
def wprs (qs : List Bool) (xs : List Int) : Nat → List UInt8
  | 0 => []
  | i + 1 => wprs qs xs i ++ wpiece qs xs i
theorem wpiece_le (qs : List Bool) (xs : List Int) (i : Nat) : (wpiece qs xs i).length ≤ 8 := by
  unfold wpiece; split
  · rw [ofN_length]; have := wid_le i; omega
  · simp
theorem wprs_len (qs : List Bool) (xs : List Int) : ∀ i, (wprs qs xs i).length ≤ 8 * i
  | 0 => by simp [wprs]
  | i + 1 => by have := wprs_len qs xs i; have := wpiece_le qs xs i; rw [wprs, List.length_append]; omega
theorem wpr_eq (a0 a1 a2 a3 : Bool) (x0 x1 x2 x3 : Int) (h0 : 0 ≤ x0 ∧ x0 < 18446744073709551616) (h1 : 0 ≤ x1 ∧ x1 < 18446744073709551616) (h2 : 0 ≤ x2 ∧ x2 < 18446744073709551616) (h3 : 0 ≤ x3 ∧ x3 < 4294967296) :
    field_PrintWide.f 100 x0 x1 x2 x3 a0 a1 a2 a3 = some (strN (wprs [a0, a1, a2, a3] [x0, x1, x2, x3] 4)) := by
  have e8 : ∀ (x : Int) (k : Nat), 0 ≤ x → x < 18446744073709551616 → 64 < k → cursor_Eight.f k x = some (strN (ofN 8 x.toNat)) := fun x k hx hx2 hk => by
    have h := eight_eq x.toNat (by omega) k hk
    rwa [show ((x.toNat : Nat) : Int) = x by omega] at h
  have e4 : ∀ (x : Int) (k : Nat), 0 ≤ x → x < 4294967296 → 64 < k → cursor_Four.f k x = some (strN (ofN 4 x.toNat)) := fun x k hx hx2 hk => by
    have h := four_eq x.toNat (by omega) k hk
    rwa [show ((x.toNat : Nat) : Int) = x by omega] at h
  have hnil : (⟨#[]⟩ : ByteArray) = strN [] := rfl
  unfold field_PrintWide.f
  have j1 : ∀ P : List UInt8, P.length ≤ 16 → field_PrintWide.j1 99 (strN P) x0 x1 x2 x3 a0 a1 a2 a3 = some (strN (P ++ wpiece [a0, a1, a2, a3] [x0, x1, x2, x3] 2 ++ wpiece [a0, a1, a2, a3] [x0, x1, x2, x3] 3)) := by
    intro P hP
    rw [show (99 : Nat) = 98 + 1 from rfl, field_PrintWide.j1]
    cases a2 with
    | true =>
      rw [if_pos rfl, e8 x2 98 h2.1 h2.2 (by omega), Option.bind_some, strN_size, strN_size, ofN_length, if_pos (by omega)]
      cases a3 with
      | true => rw [if_pos rfl, e4 x3 98 h3.1 h3.2 (by omega), Option.bind_some, strN_size, ofN_length, if_pos (by omega), strN_append, strN_append]; rfl
      | false => rw [if_neg (by decide), strN_append]; simp [wpiece, wid]
    | false =>
      rw [if_neg (by decide)]
      cases a3 with
      | true => rw [if_pos rfl, e4 x3 98 h3.1 h3.2 (by omega), Option.bind_some, strN_size, strN_size, ofN_length, if_pos (by omega), strN_append]; simp [wpiece, wid]
      | false => rw [if_neg (by decide)]; simp [wpiece, wid]
  have j0 : ∀ P : List UInt8, P.length ≤ 8 → field_PrintWide.j0 100 (strN P) x0 x1 x2 x3 a0 a1 a2 a3 = some (strN (P ++ wpiece [a0, a1, a2, a3] [x0, x1, x2, x3] 1 ++ wpiece [a0, a1, a2, a3] [x0, x1, x2, x3] 2 ++ wpiece [a0, a1, a2, a3] [x0, x1, x2, x3] 3)) := by
    intro P hP
    rw [show (100 : Nat) = 99 + 1 from rfl, field_PrintWide.j0]
    cases a1 with
    | true =>
      rw [if_pos rfl, e8 x1 99 h1.1 h1.2 (by omega), Option.bind_some, strN_size, strN_size, ofN_length, if_pos (by omega), strN_append, j1 _ (by rw [List.length_append, ofN_length]; omega)]
      rfl
    | false =>
      rw [if_neg (by decide), j1 _ (by omega)]
      simp [wpiece, wid]
  cases a0 with
  | true =>
    rw [if_pos rfl, e8 x0 100 h0.1 h0.2 (by omega), Option.bind_some, strN_size, ofN_length, if_pos (by omega), hnil, strN_append, j0 _ (by simp [ofN_length])]
    rfl
  | false =>
    rw [if_neg (by decide), hnil, j0 _ (by simp)]
    rfl
theorem ref_of_wid (n : Int) (i : Nat) (h0 : 0 ≤ n) (h1 : n < 18446744073709551616) : portmanteauref01_Of.f 100 n ((wid i : Nat) : Int) = some (strN (ofN (wid i) n.toNat)) := by
  have h := ref_of_eq n.toNat (by omega) ((wid i : Nat) : Int) 100 (by omega)
  rw [show ((n.toNat : Nat) : Int) = n by omega] at h
  rw [h]
  unfold ofI
  have := wid_le i
  rw [Int.toNat_natCast, Nat.min_eq_left (by omega)]
end Go.Proofs.YtloojhhjljneeaaDoor.Wd

/- field.ParsePath: the walk; what it tells. -/
namespace Go.Proofs.YtloojhhjljneeaaDoor.Ut
set_option linter.unusedVariables false
set_option linter.unusedSimpArgs false
open Go Go.RowKit Go.Proofs.YtloojhhjljneeaaDoor.P Go.Proofs.YtloojhhjljneeaaDoor.B Go.Proofs.YtloojhhjljneeaaDoor.Num Go.Proofs.YtloojhhjljneeaaDoor.Cur Go.Proofs.YtloojhhjljneeaaDoor.Cr Go.Proofs.YtloojhhjljneeaaDoorW.PrintWords Go.Proofs.YtloojhhjljneeaaDoorW.PrintLast Go.Proofs.YtloojhhjljneeaaDoorW.PrintMore
/-- The path that some bytes tell of a name. -/
def pathW (s raw : ByteArray) : ByteArray × Bool × Int :=
  if s.size < 5 ∨ (s.data.toList.getD 0 0).toNat ≠ 1 then (⟨#[]⟩, false, 24)
  else if leN ((s.data.toList.drop 1).take 4) ≠ sumN raw.data.toList then (⟨#[]⟩, false, 0)
  else if Lib.validD (s.data.toList.drop 5) = true then (strN (s.data.toList.drop 5), true, 0) else (⟨#[]⟩, false, 20)
theorem take_err {s : ByteArray} {a n e : Int} (he : e ≠ 0) : cursor_Cursor_Take.f s a e n = some ((⟨#[]⟩ : ByteArray), s, a, e) := by
  unfold cursor_Cursor_Take.f
  rw [if_neg he]
/-- What is read. -/
theorem read_path (s : ByteArray) (hs : s.size ≤ 1000000) : ∃ (v a1 e1 n a2 e2 : Int) (path : ByteArray) (a3 e3 : Int),
    cursor_Cursor_One.f 50 s 0 0 = some (v, s, a1, e1) ∧ cursor_Cursor_Four.f 50 s a1 e1 = some (n, s, a2, e2) ∧ cursor_Cursor_Take.f s a2 e2 (wrap64 ((s.size : Int) - a2)) = some (path, s, a3, e3) ∧ 0 ≤ v ∧ v < 256 ∧ 0 ≤ n ∧ n < 4294967296 ∧
    ((s.size < 5 ∧ e3 ≠ 0) ∨ (5 ≤ s.size ∧ e3 = 0 ∧ v = (((s.data.toList.getD 0 0).toNat : Nat) : Int) ∧ n = ((leN ((s.data.toList.drop 1).take 4) : Nat) : Int) ∧ path = strN (s.data.toList.drop 5))) := by
  have hlen : s.data.toList.length = s.size := by simp
  have h0 := At.start s (by omega)
  match hL : s.data.toList, h0 with
  | [], h0 =>
    rw [hL] at hlen
    simp at hlen
    exact ⟨0, 0, 3, 0, 0, 3, _, 0, 3, one_fail h0 (by simp) 50 (by omega), four_bad (by decide) 50 (by omega), take_err (by decide), by omega, by omega, by omega, by omega, .inl ⟨by omega, by decide⟩⟩
  | x :: R, h0 =>
    have h1 := one_at (m := [x]) (R := R) h0 rfl 50 (by omega)
    have hA1 := At.on (m := [x]) (R := R) h0
    have hxl := x.toNat_lt
    have hle : leN [x] = x.toNat := leN_one x
    rw [hle] at h1
    by_cases h4 : R.length < 4
    · rw [hL] at hlen
      simp at hlen
      exact ⟨_, _, 0, 0, _, 3, _, _, 3, h1, four_fail hA1 h4 50 (by omega), take_err (by decide), by omega, by omega, by omega, by omega, .inl ⟨by omega, by decide⟩⟩
    · obtain ⟨m, R2, rfl, hm⟩ : ∃ m R2, R = m ++ R2 ∧ m.length = 4 := ⟨R.take 4, R.drop 4, (List.take_append_drop 4 R).symm, by rw [List.length_take]; omega⟩
      have h2 := four_at (m := m) (R := R2) hA1 hm 50 (by omega)
      have hA2 := At.on (m := m) (R := R2) hA1
      have hl2 := left_at hA2
      have h3 := take_at (n := wrap64 ((s.size : Int) - (0 + (([x] : List UInt8).length : Int) + (m.length : Int)))) (m := R2) (R := []) (by rw [List.append_nil]; exact hA2) hl2
      have hml := leN_lt m
      rw [hm] at hml
      rw [hL] at hlen
      simp [hm] at hlen
      refine ⟨_, _, 0, _, _, 0, _, _, 0, h1, h2, h3, by omega, by omega, by omega, by omega, .inr ⟨by omega, rfl, ?_, ?_, ?_⟩⟩
      · rfl
      · rw [List.drop_succ_cons, List.drop_zero, List.take_left' hm]
      · rw [List.drop_succ_cons, List.drop_left' hm]
set_option maxHeartbeats 4000000 in
set_option maxRecDepth 100000 in
theorem parse_calls (s raw : ByteArray) (w : World) (hs : s.size ≤ 1000000) (hr : raw.size ≤ 1000000) (hT : Tabs w) :
    Calls Tryd.prog 6 #[.string s, .string raw] w fun e w' => e = .returned (.tuple #[.string (pathW s raw).1, .bool (pathW s raw).2.1, .int .i64 (pathW s raw).2.2]) ∧ Below w.heap.size w w' := by
  obtain ⟨v, a1, e1, n, a2, e2, path, a3, e3, h1, h2, h3, hv0, hv1, hn0, hn1, hor⟩ := read_path s hs
  have H1 := Aside0.mk h1
  have H2 := Aside0.mk h2
  have H3 := Aside0.mk h3
  have HT := Aside0.mk hT
  have hsf : field_sum.f raw = some ((sumN raw.data.toList : Nat) : Int) := by unfold field_sum.f; rw [if_pos hr]
  have HSF := Aside0.mk hsf
  have hlen : s.data.toList.length = s.size := by simp
  clear h1 h2 h3 hT hsf
  rcases hor with ⟨hlt, he⟩ | ⟨hge, rfl, rfl, rfl, rfl⟩
  case' inl =>
    have heb : (e3 != 0) = true := bne_iff_ne.2 he
    have HPW := Aside0.mk (show pathW s raw = (⟨#[]⟩, false, 24) by unfold pathW; rw [if_pos (.inl hlt)])
  case' inr =>
    have hps : (strN (s.data.toList.drop 5)).size ≤ 9223372036854775807 := by rw [strN_size, List.length_drop]; omega
    have HPS := Aside0.mk hps
    have hdv : (strN (s.data.toList.drop 5)).data.toList = s.data.toList.drop 5 := rfl
    have HDV := Aside0.mk hdv
    have hpw : pathW s raw = if s.size < 5 ∨ (s.data.toList.getD 0 0).toNat ≠ 1 then (⟨#[]⟩, false, 24)
      else if leN ((s.data.toList.drop 1).take 4) ≠ sumN raw.data.toList then (⟨#[]⟩, false, 0)
      else if Lib.validD (s.data.toList.drop 5) = true then (strN (s.data.toList.drop 5), true, 0) else (⟨#[]⟩, false, 20) := rfl
    obtain ⟨p, hp⟩ : ∃ p, strN (s.data.toList.drop 5) = p := ⟨_, rfl⟩
    obtain ⟨x, hx⟩ : ∃ x, (s.data.toList.getD 0 0).toNat = x := ⟨_, rfl⟩
    obtain ⟨y, hy⟩ : ∃ y, leN ((s.data.toList.drop 1).take 4) = y := ⟨_, rfl⟩
    rw [hp] at H3 HPS HDV hpw
    rw [hx] at H1 hpw hv0 hv1
    rw [hy] at H2 hpw hn0 hn1
    have HPW := Aside0.mk hpw
    clear hps hdv hp hx hy hpw
  all_goals go_enter Tryd.func6, Tryd.ntmps6
  all_goals go_upto_block 0 with (first
    | (go_at_call 17; refine (cursor_Over.calls _ _ _ _ w w (Below.refl _ _) rfl).mono ?_; rintro e w1 ⟨g, rfl, hi, hb, _⟩; have HI1 := Aside0.mk hi; have HB1 := Aside0.mk hb; clear hi hb)
    | (go_at_call 18; refine (cursor_Cursor_One.calls 50 g s 0 0 _ _ _ _ w _ HI1.out HB1.out H1.out).mono ?_; rintro e w2 ⟨rfl, hi, hb, _⟩; have HI2 := Aside0.mk hi; have HB2 := Aside0.mk hb; clear hi hb)
    | (go_at_call 19; refine (cursor_Cursor_Four.calls 50 g s a1 e1 _ _ _ _ w _ HI2.out HB2.out H2.out).mono ?_; rintro e w3 ⟨rfl, hi, hb, _⟩; have HI3 := Aside0.mk hi; have HB3 := Aside0.mk hb; clear hi hb)
    | (go_at_call 21; refine (cursor_Cursor_Left.calls g s a2 e2 _ _ _ _ w _ HI3.out HB3.out rfl).mono ?_; rintro e w4 ⟨rfl, hi, hb, _⟩; have HI4 := Aside0.mk hi; have HB4 := Aside0.mk hb; clear hi hb)
    | (go_at_call 20; refine (cursor_Cursor_Take.calls g s a2 e2 _ _ _ _ _ w _ HI4.out HB4.out H3.out).mono ?_; rintro e w5 ⟨rfl, hi, hb, _⟩; have HI5 := Aside0.mk hi; have HB5 := Aside0.mk hb; clear hi hb))
  all_goals clear HI1 HB1 HI2 HB2 HI3 HB3 HI4 HB4
  · by_cases hx1 : x = 1
    case neg =>
      have hxb : ((x : Int) != 1) = true := by simp; omega
      have hxb2 : (x != 1) = true := by simpa using hx1
      have hq := HPW.out
      rw [if_pos (.inr hx1)] at hq
      go_wp2_with (go_at_call 22; refine (cursor_Cursor_Err.calls g s a3 0 _ _ _ _ w _ HI5.out HB5.out rfl).mono ?_; rintro e w6 ⟨rfl, hi, hb, _⟩; have HB6 := Aside0.mk hb; clear hi hb)
      go_ret3
      refine ⟨by rw [hq]; rfl, HB6.out⟩
    subst hx1
    obtain ⟨z, hz⟩ : ∃ z, sumN raw.data.toList = z := ⟨_, rfl⟩
    rw [hz] at HSF HPW
    have hq := HPW.out
    rw [if_neg (by omega)] at hq
    by_cases hyz : y = z
    case neg =>
      have hyb : ((y : Int) != (z : Int)) = true := by simp; omega
      have hyb2 : (y != z) = true := by simpa using hyz
      rw [if_pos hyz] at hq
      have HQ := Aside0.mk hq
      clear hq hz
      go_wp2_with (first
        | (go_at_call 22; refine (cursor_Cursor_Err.calls g s a3 0 _ _ _ _ w _ HI5.out HB5.out rfl).mono ?_; rintro e w6 ⟨rfl, hi, hb, _⟩; have HB6 := Aside0.mk hb; clear hi hb)
        | (go_at_call 23; refine (field_sum.calls _ _ _ HSF.out).mono ?_; rintro e w7 ⟨rfl, hb⟩; have HB7 := Aside0.mk (below_step HB6.out hb); clear hb))
      go_ret3
      refine ⟨by rw [HQ.out]; rfl, HB7.out⟩
    subst hyz
    rw [if_neg (by simp)] at hq
    have HQ := Aside0.mk hq
    clear hq hz
    by_cases hv : Lib.validD (s.data.toList.drop 5) = true
    · have HV := Aside0.mk hv
      go_wp2_with (first
        | (go_at_call 22; refine (cursor_Cursor_Err.calls g s a3 0 _ _ _ _ w _ HI5.out HB5.out rfl).mono ?_; rintro e w6 ⟨rfl, hi, hb, _⟩; have HB6 := Aside0.mk hb; clear hi hb)
        | (go_at_call 23; refine (field_sum.calls _ _ _ HSF.out).mono ?_; rintro e w7 ⟨rfl, hb⟩; have HB7 := Aside0.mk (below_step HB6.out hb); clear hb)
        | (go_at_call 24; refine (valid_calls _ _ HPS.out (Utf8Tabs_below HT.out HB7.out)).mono ?_; rintro e w8 ⟨rfl, hb⟩; rw [HDV.out, HV.out]; have HB8 := Aside0.mk (below_step HB7.out hb); clear hb))
      go_ret3
      refine ⟨by rw [HQ.out, if_pos HV.out]; rfl, HB8.out⟩
    · have hv2 : Lib.validD (s.data.toList.drop 5) = false := by simpa using hv
      have HV := Aside0.mk hv2
      go_wp2_with (first
        | (go_at_call 22; refine (cursor_Cursor_Err.calls g s a3 0 _ _ _ _ w _ HI5.out HB5.out rfl).mono ?_; rintro e w6 ⟨rfl, hi, hb, _⟩; have HB6 := Aside0.mk hb; clear hi hb)
        | (go_at_call 23; refine (field_sum.calls _ _ _ HSF.out).mono ?_; rintro e w7 ⟨rfl, hb⟩; have HB7 := Aside0.mk (below_step HB6.out hb); clear hb)
        | (go_at_call 24; refine (valid_calls _ _ HPS.out (Utf8Tabs_below HT.out HB7.out)).mono ?_; rintro e w8 ⟨rfl, hb⟩; rw [HDV.out, HV.out]; have HB8 := Aside0.mk (below_step HB7.out hb); clear hb))
      go_ret3
      refine ⟨by rw [HQ.out, HV.out]; rfl, HB8.out⟩
  · go_wp2_with (go_at_call 22; refine (cursor_Cursor_Err.calls g s a3 e3 _ _ _ _ w _ HI5.out HB5.out rfl).mono ?_; rintro e w6 ⟨rfl, hi, hb, _⟩; have HB6 := Aside0.mk hb; clear hi hb)
    go_ret3
    refine ⟨by rw [HPW.out]; rfl, HB6.out⟩
end Go.Proofs.YtloojhhjljneeaaDoor.Ut

/- Plain: the reference's Strays and the library's ValidString tell the same. -/
namespace Go.Proofs.YtloojhhjljneeaaDoor.Sv
set_option linter.unusedVariables false
set_option linter.unusedSimpArgs false
open Go Go.RowKit Go.Proofs.YtloojhhjljneeaaDoor.P Go.Proofs.YtloojhhjljneeaaDoor.B Go.Proofs.YtloojhhjljneeaaDoorW.PrintWords Go.Proofs.YtloojhhjljneeaaDoorW.PrintLast Go.Proofs.YtloojhhjljneeaaDoorW.PrintMore
/-- A byte's number. -/
def by_ (s : ByteArray) (i : Nat) : Nat := (s.data.toList.getD i 0).toNat
theorem by_lt (s : ByteArray) (i : Nat) : by_ s i < 256 := (s.data.toList.getD i 0).toNat_lt
theorem bt_by (s : ByteArray) (i : Nat) (h : i < s.size) : bt s (i : Int) = ((by_ s i : Nat) : Int) := by
  have hl : i < s.data.toList.length := by simpa using h
  rw [bt_nat s i hl]
  unfold by_
  rw [List.getD_eq_getElem?_getD, List.getElem?_eq_getElem hl, Option.getD_some]
theorem within_f (s : ByteArray) (j : Nat) (lo hi : Int) : portmanteauref10_within.f s (j : Int) lo hi = some (decide (j < s.size ∧ lo ≤ ((by_ s j : Nat) : Int) ∧ ((by_ s j : Nat) : Int) ≤ hi)) := by
  unfold portmanteauref10_within.f
  by_cases h : j < s.size
  · rw [if_pos (by omega), if_pos (by omega), bt_by s j h]
    by_cases h1 : lo ≤ ((by_ s j : Nat) : Int)
    · rw [if_pos h1]; simp [h, h1]
    · rw [if_neg h1]; simp [h1]
  · rw [if_neg (by omega)]; simp [h]
theorem l0_step (s : ByteArray) (k i more v x : Nat) (hs : s.size ≤ 1000000) (hx : x ≤ more) (hm : more ≤ 3) (hi : i + x < s.size) (hv : v ≤ 1099511627776) : portmanteauref10_One.l0 (k + 1) s i more v x = portmanteauref10_One.l0 k s i more ((v * 64 + by_ s (i + x) % 64 : Nat) : Int) ((x + 1 : Nat) : Int) := by
  have hb := by_lt s (i + x)
  have h1 := bt_by s (i + x) hi
  rw [portmanteauref10_One.l0, if_pos (by omega), wrap_id (x := (i : Int) + (x : Int)) (by omega) (by omega), if_pos (by omega), if_pos (by omega), show (i : Int) + (x : Int) = ((i + x : Nat) : Int) by omega, h1, wrap_id (x := ((by_ s (i + x) : Nat) : Int)) (by omega) (by omega), Int.tmod_eq_emod_of_nonneg (by omega), wrap_id (x := (v : Int) * 64) (by omega) (by omega), wrap_id (by omega) (by omega), wrap_id (x := (x : Int) + 1) (by omega) (by omega)]
  congr 1
theorem l0_stop (s : ByteArray) (k i more v x : Nat) (hm : more ≤ 3) (hx : more < x) : portmanteauref10_One.l0 (k + 1) s i more v x = some ((v : Int), ((more + 1 : Nat) : Int)) := by
  rw [portmanteauref10_One.l0, if_neg (by omega), wrap_id (by omega) (by omega)]
  rfl
theorem l0_val (s : ByteArray) (k i more v : Nat) (hs : s.size ≤ 1000000) (h1 : 1 ≤ more) (hm : more ≤ 3) (hi : i + more < s.size) (hv : v ≤ 256) (hk : 5 < k) : ∃ u : Nat, portmanteauref10_One.l0 k s i more v 1 = some ((u : Int), ((more + 1 : Nat) : Int)) := by
  obtain ⟨k, rfl⟩ : ∃ q, k = q + 4 := ⟨k - 4, by omega⟩
  have b1 := by_lt s (i + 1)
  have b2 := by_lt s (i + 2)
  have b3 := by_lt s (i + 3)
  have e1 := l0_step s (k + 3) i more v 1 hs (by omega) hm (by omega) (by omega)
  rw [show k + 3 + 1 = k + 4 by omega] at e1
  rw [show (1 : Int) = ((1 : Nat) : Int) from rfl, e1]
  rcases (by omega : more = 1 ∨ more = 2 ∨ more = 3) with rfl | rfl | rfl
  · exact ⟨_, l0_stop s (k + 2) i 1 _ 2 (by omega) (by omega)⟩
  · have e2 := l0_step s (k + 2) i 2 (v * 64 + by_ s (i + 1) % 64) 2 hs (by omega) (by omega) (by omega) (by omega)
    rw [e2]
    exact ⟨_, l0_stop s (k + 1) i 2 _ 3 (by omega) (by omega)⟩
  · have e2 := l0_step s (k + 2) i 3 (v * 64 + by_ s (i + 1) % 64) 2 hs (by omega) (by omega) (by omega) (by omega)
    have e3 := l0_step s (k + 1) i 3 ((v * 64 + by_ s (i + 1) % 64) * 64 + by_ s (i + 2) % 64) 3 hs (by omega) (by omega) (by omega) (by omega)
    rw [e2, e3]
    exact ⟨_, l0_stop s k i 3 _ 4 (by omega) (by omega)⟩
/-- How many bytes more a lead byte asks for, and from where to where the next one is. -/
def moreN (b : Nat) : Nat := if b < 194 then 0 else if b < 224 then 1 else if b < 240 then 2 else if b < 245 then 3 else 0
def lowN (b : Nat) : Nat := if b = 224 then 160 else if b = 240 then 144 else 128
def highN (b : Nat) : Nat := if b = 237 then 159 else if b = 244 then 143 else 191
section
variable (k : Nat) (s : ByteArray) (i b x lo hi : Int)
theorem a0 (c : Bool) : portmanteauref10_One.j0 (k + 1) s i b x lo hi c = portmanteauref10_One.j1 k s i b (if c = true then 1 else x) lo hi := by
  rw [portmanteauref10_One.j0]; cases c <;> rfl
theorem a1 : portmanteauref10_One.j1 (k + 2) s i b x lo hi = portmanteauref10_One.j3 k s i b (if 224 ≤ b ∧ b ≤ 239 then 2 else x) lo hi := by
  rw [portmanteauref10_One.j1]
  by_cases h : b ≥ 224
  · rw [if_pos h, portmanteauref10_One.j2]
    by_cases h2 : b ≤ 239
    · rw [if_pos (by simpa using h2), if_pos ⟨h, h2⟩]
    · rw [if_neg (by simpa using h2), if_neg (fun q => h2 q.2)]
  · rw [if_neg h, portmanteauref10_One.j2, if_neg (by simp), if_neg (fun q => h q.1)]
theorem a3 : portmanteauref10_One.j3 (k + 2) s i b x lo hi = portmanteauref10_One.j5 k s i b (if 240 ≤ b ∧ b ≤ 244 then 3 else x) lo hi := by
  rw [portmanteauref10_One.j3]
  by_cases h : b ≥ 240
  · rw [if_pos h, portmanteauref10_One.j4]
    by_cases h2 : b ≤ 244
    · rw [if_pos (by simpa using h2), if_pos ⟨h, h2⟩]
    · rw [if_neg (by simpa using h2), if_neg (fun q => h2 q.2)]
  · rw [if_neg h, portmanteauref10_One.j4, if_neg (by simp), if_neg (fun q => h q.1)]
theorem a5 : portmanteauref10_One.j5 (k + 1) s i b x lo hi = portmanteauref10_One.j6 k s i b x (if b = 224 then 160 else lo) hi := by rw [portmanteauref10_One.j5]; split <;> rfl
theorem a6 : portmanteauref10_One.j6 (k + 1) s i b x lo hi = portmanteauref10_One.j7 k s i b x lo (if b = 237 then 159 else hi) := by rw [portmanteauref10_One.j6]; split <;> rfl
theorem a7 : portmanteauref10_One.j7 (k + 1) s i b x lo hi = portmanteauref10_One.j8 k s i b x (if b = 240 then 144 else lo) hi := by rw [portmanteauref10_One.j7]; split <;> rfl
theorem a8 : portmanteauref10_One.j8 (k + 1) s i b x lo hi = portmanteauref10_One.j9 k s i b x lo (if b = 244 then 143 else hi) := by rw [portmanteauref10_One.j8]; split <;> rfl
end
theorem one_lead (s : ByteArray) (k i : Nat) (hi : i < s.size) (hb : 128 ≤ by_ s i) : portmanteauref10_One.f (k + 20) s i = portmanteauref10_One.j9 (k + 11) s i ((by_ s i : Nat) : Int) ((moreN (by_ s i) : Nat) : Int) ((lowN (by_ s i) : Nat) : Int) ((highN (by_ s i) : Nat) : Int) := by
  have hl := by_lt s i
  unfold portmanteauref10_One.f
  rw [if_pos (by omega), if_pos (by omega), bt_by s i hi, if_neg (by omega)]
  obtain ⟨b, hbb⟩ : ∃ b, by_ s i = b := ⟨_, rfl⟩
  rw [hbb] at hb hl ⊢
  have e : ∀ c, portmanteauref10_One.j0 (k + 20) s i (b : Int) 0 128 191 c = portmanteauref10_One.j9 (k + 11) s i (b : Int) (if 240 ≤ (b : Int) ∧ (b : Int) ≤ 244 then 3 else if 224 ≤ (b : Int) ∧ (b : Int) ≤ 239 then 2 else if c = true then 1 else 0) (if (b : Int) = 240 then 144 else if (b : Int) = 224 then 160 else 128) (if (b : Int) = 244 then 143 else if (b : Int) = 237 then 159 else 191) := fun c => by
    rw [show k + 20 = k + 19 + 1 from rfl, a0, show k + 19 = k + 17 + 2 from rfl, a1, show k + 17 = k + 15 + 2 from rfl, a3, show k + 15 = k + 14 + 1 from rfl, a5, show k + 14 = k + 13 + 1 from rfl, a6, show k + 13 = k + 12 + 1 from rfl, a7, show k + 12 = k + 11 + 1 from rfl, a8]
  have e1 : (if 240 ≤ (b : Int) ∧ (b : Int) ≤ 244 then (3 : Int) else if 224 ≤ (b : Int) ∧ (b : Int) ≤ 239 then 2 else if decide ((b : Int) ≥ 194 ∧ (b : Int) ≤ 223) = true then 1 else 0) = ((moreN b : Nat) : Int) := by
    unfold moreN
    simp only [decide_eq_true_eq]
    repeat' split
    all_goals first | rfl | omega
  have e2 : (if (b : Int) = 240 then (144 : Int) else if (b : Int) = 224 then 160 else 128) = ((lowN b : Nat) : Int) := by
    unfold lowN
    repeat' split
    all_goals first | rfl | omega
  have e3 : (if (b : Int) = 244 then (143 : Int) else if (b : Int) = 237 then 159 else 191) = ((highN b : Nat) : Int) := by
    unfold highN
    repeat' split
    all_goals first | rfl | omega
  by_cases h : (b : Int) ≥ 194
  · rw [if_pos h, e, ← e1, e2, e3]
    simp [h]
  · rw [if_neg h, e, ← e1, e2, e3]
    simp [h]
set_option maxRecDepth 100000 in
theorem first_tab : ∀ b : Fin 256, 128 ≤ b.val → (moreN b.val = 0 ∧ Lib.firstT b.val % 8 = 1) ∨ (0 < moreN b.val ∧ Lib.firstT b.val % 8 = moreN b.val + 1 ∧ Lib.accLo (Lib.firstT b.val / 16) = lowN b.val ∧ Lib.accHi (Lib.firstT b.val / 16) = highN b.val) := by decide +kernel
theorem t10 (k : Nat) (s : ByteArray) (i b x : Int) : portmanteauref10_One.j10 (k + 1) s i b x true = some (-1, 1) := by rw [portmanteauref10_One.j10, if_pos rfl]
theorem f10 (k : Nat) (s : ByteArray) (i b more : Nat) (hs : s.size ≤ 1000000) (h1 : 1 ≤ more) (hm : more ≤ 3) (hi : i + more < s.size) (hb : b < 256) : ∃ u : Nat, portmanteauref10_One.j10 (k + 10) s i b more false = some ((u : Int), ((more + 1 : Nat) : Int)) := by
  have hw : wrap64 (b : Int) = (b : Int) := wrap_id (by omega) (by omega)
  have e : ∃ v : Nat, v ≤ 256 ∧ portmanteauref10_One.j10 (k + 10) s i b more false = portmanteauref10_One.l0 (k + 7) s i more v 1 := by
    rw [show k + 10 = k + 9 + 1 from rfl, portmanteauref10_One.j10, if_neg (by decide), hw, Int.tmod_eq_emod_of_nonneg (by omega), Int.tmod_eq_emod_of_nonneg (by omega)]
    have e11 : ∀ z : Int, portmanteauref10_One.j11 (k + 9) s i b more z = portmanteauref10_One.l0 (k + 7) s i more (if (more : Int) = 3 then (b : Int) % 8 else z) 1 := fun z => by
      rw [show k + 9 = k + 8 + 1 from rfl, portmanteauref10_One.j11, hw, Int.tmod_eq_emod_of_nonneg (by omega)]
      split
      · rw [show k + 8 = k + 7 + 1 from rfl, portmanteauref10_One.j12]
      · rw [show k + 8 = k + 7 + 1 from rfl, portmanteauref10_One.j12]
    rw [e11, e11]
    rcases (by omega : more = 1 ∨ more = 2 ∨ more = 3) with rfl | rfl | rfl
    · exact ⟨b % 32, by omega, by rw [if_neg (by decide), if_neg (by decide)]; rfl⟩
    · exact ⟨b % 16, by omega, by rw [if_pos (by decide), if_neg (by decide)]; rfl⟩
    · exact ⟨b % 8, by omega, by rw [if_neg (by decide), if_pos (by decide)]; rfl⟩
  obtain ⟨v, hv, e⟩ := e
  rw [e]
  exact l0_val s (k + 7) i more v hs h1 hm hi hv (by omega)
/-- One, at a lead byte: a stray, or as many bytes as the library says. -/
theorem one_check (s : ByteArray) (k i : Nat) (hs : s.size ≤ 1000000) (hi : i < s.size) (hb : 128 ≤ by_ s i) :
    (portmanteauref10_One.f (k + 20) s i = some (-1, 1) ∧ Lib.checkN (s.size - i) (by_ s (i + 1)) (by_ s (i + 2)) (by_ s (i + 3)) (Lib.firstT (by_ s i) % 8) (Lib.accLo (Lib.firstT (by_ s i) / 16)) (Lib.accHi (Lib.firstT (by_ s i) / 16)) = none)
    ∨ ∃ u m : Nat, portmanteauref10_One.f (k + 20) s i = some ((u : Int), (m : Int)) ∧ 2 ≤ m ∧ i + m ≤ s.size ∧ Lib.checkN (s.size - i) (by_ s (i + 1)) (by_ s (i + 2)) (by_ s (i + 3)) (Lib.firstT (by_ s i) % 8) (Lib.accLo (Lib.firstT (by_ s i) / 16)) (Lib.accHi (Lib.firstT (by_ s i) / 16)) = some m := by
  have hl := by_lt s i
  have b1 := by_lt s (i + 1)
  have b2 := by_lt s (i + 2)
  have b3 := by_lt s (i + 3)
  rw [one_lead s k i hi hb]
  rw [show k + 11 = k + 10 + 1 from rfl, portmanteauref10_One.j9, wrap_id (x := (i : Int) + 1) (by omega) (by omega), wrap_id (x := (i : Int) + 2) (by omega) (by omega), wrap_id (x := (i : Int) + 3) (by omega) (by omega), show (i : Int) + 1 = ((i + 1 : Nat) : Int) by omega, show (i : Int) + 2 = ((i + 2 : Nat) : Int) by omega, show (i : Int) + 3 = ((i + 3 : Nat) : Int) by omega, within_f, within_f, within_f]
  simp only [Option.bind_some]
  have hf := first_tab ⟨by_ s i, hl⟩ hb
  have hm3 : moreN (by_ s i) ≤ 3 := by unfold moreN; (repeat' split) <;> omega
  have hff := f10 k s i (by_ s i) (moreN (by_ s i)) hs
  dsimp only at hf
  obtain ⟨b, hbb⟩ : ∃ b, by_ s i = b := ⟨_, rfl⟩
  rw [hbb] at hl hf hm3 hff ⊢
  obtain ⟨M, hM⟩ : ∃ M, moreN b = M := ⟨_, rfl⟩
  rw [hM] at hf hm3 hff ⊢
  rcases hf with ⟨h0, h1⟩ | ⟨h0, h1, h2, h3⟩
  · left
    rw [if_pos (by omega), show k + 10 = k + 9 + 1 from rfl, t10, h1]
    exact ⟨rfl, by simp [Lib.checkN]⟩
  · rw [if_neg (by omega), h1, h2, h3]
    obtain ⟨lo, hlo⟩ : ∃ lo, lowN b = lo := ⟨_, rfl⟩
    obtain ⟨hh, hhh⟩ : ∃ hh, highN b = hh := ⟨_, rfl⟩
    obtain ⟨c1, hc1⟩ : ∃ c1, by_ s (i + 1) = c1 := ⟨_, rfl⟩
    obtain ⟨c2, hc2⟩ : ∃ c2, by_ s (i + 2) = c2 := ⟨_, rfl⟩
    obtain ⟨c3, hc3⟩ : ∃ c3, by_ s (i + 3) = c3 := ⟨_, rfl⟩
    rw [hlo, hhh, hc1, hc2, hc3]
    by_cases w1 : i + 1 < s.size ∧ lo ≤ c1 ∧ c1 ≤ hh
    · rw [if_pos (by simpa using ⟨w1.1, by omega, by omega⟩)]
      by_cases m2 : 1 < M
      · rw [if_pos (by omega)]
        by_cases w2 : i + 2 < s.size ∧ 128 ≤ c2 ∧ c2 ≤ 191
        · rw [if_pos (by simpa using ⟨w2.1, by omega, by omega⟩)]
          by_cases m3 : 2 < M
          · rw [if_pos (by omega)]
            obtain rfl : M = 3 := by omega
            by_cases w3 : i + 3 < s.size ∧ 128 ≤ c3 ∧ c3 ≤ 191
            · right
              obtain ⟨u, hu⟩ := hff (by omega) (by omega) (by omega) hl
              refine ⟨u, 4, ?_, by omega, by omega, ?_⟩
              · rw [decide_eq_true (by omega), Bool.not_true]; exact hu
              · unfold Lib.checkN
                rw [if_neg (by omega), if_neg (by omega), if_pos rfl, if_neg (by omega)]
            · left
              refine ⟨?_, ?_⟩
              · rw [decide_eq_false (by omega), Bool.not_false, show k + 10 = k + 9 + 1 from rfl, t10]
              · unfold Lib.checkN
                rw [if_neg (by omega), if_neg (by omega), if_pos rfl, if_pos (by omega)]
          · rw [if_neg (by omega)]
            obtain rfl : M = 2 := by omega
            right
            obtain ⟨u, hu⟩ := hff (by omega) (by omega) (by omega) hl
            refine ⟨u, 3, hu, by omega, by omega, ?_⟩
            unfold Lib.checkN
            rw [if_neg (by omega), if_pos rfl, if_neg (by omega)]
        · rw [if_neg (by simpa using fun q1 q2 => by omega)]
          left
          refine ⟨by rw [show k + 10 = k + 9 + 1 from rfl, t10], ?_⟩
          unfold Lib.checkN
          rcases (by omega : M = 2 ∨ M = 3) with rfl | rfl
          · rw [if_neg (by omega), if_pos rfl, if_pos (by omega)]
          · rw [if_neg (by omega), if_neg (by omega), if_pos rfl, if_pos (by omega)]
      · rw [if_neg (by omega), if_neg (by omega)]
        obtain rfl : M = 1 := by omega
        right
        obtain ⟨u, hu⟩ := hff (by omega) (by omega) (by omega) hl
        refine ⟨u, 2, hu, by omega, by omega, ?_⟩
        unfold Lib.checkN
        rw [if_pos rfl, if_neg (by omega)]
    · rw [if_neg (by simpa using fun q1 q2 => by omega)]
      left
      refine ⟨by rw [show k + 10 = k + 9 + 1 from rfl, t10], ?_⟩
      unfold Lib.checkN
      rcases (by omega : M = 1 ∨ M = 2 ∨ M = 3) with rfl | rfl | rfl
      · rw [if_pos rfl, if_pos (by omega)]
      · rw [if_neg (by omega), if_pos rfl, if_pos (by omega)]
      · rw [if_neg (by omega), if_neg (by omega), if_pos rfl, if_pos (by omega)]
theorem drop_get (s : ByteArray) (i j : Nat) : ((s.data.toList.drop i).getD j 0).toNat = by_ s (i + j) := by
  unfold by_
  rw [List.getD_eq_getElem?_getD, List.getD_eq_getElem?_getD, List.getElem?_drop]
/-- From a place on. -/
theorem strays_loop (s : ByteArray) (hs : s.size ≤ 1000000) : ∀ (d k i : Nat), i ≤ s.size → s.size - i ≤ d → d + 21 < k → portmanteauref10_Strays.l0 k s i = some (!(Lib.validD (s.data.toList.drop i)))
  | d, k, i, hi, hd, hk => by
    obtain ⟨k, rfl⟩ : ∃ m, k = m + 1 := ⟨k - 1, by omega⟩
    rw [portmanteauref10_Strays.l0]
    by_cases hlt : i < s.size
    · obtain ⟨d, rfl⟩ : ∃ e, d = e + 1 := ⟨d - 1, by omega⟩
      obtain ⟨q, rfl⟩ : ∃ q, k = q + 20 := ⟨k - 20, by omega⟩
      have hlen : (s.data.toList.drop i).length = s.size - i := by simp
      have hne : s.data.toList.drop i ≠ [] := fun h => by rw [h] at hlen; simp at hlen; omega
      rw [if_pos (by omega)]
      have g0 := drop_get s i 0
      have g1 := drop_get s i 1
      have g2 := drop_get s i 2
      have g3 := drop_get s i 3
      rw [Nat.add_zero] at g0
      by_cases hb : 128 ≤ by_ s i
      · have hv := Lib.validD_lead (s.data.toList.drop i) hne (by rw [g0]; exact hb)
        rw [g0, g1, g2, g3, hlen] at hv
        rcases one_check s q i hs hlt hb with ⟨h1, h2⟩ | ⟨u, m, h1, h2, h3, h4⟩
        · rw [h1, Option.bind_some, if_pos (by decide), hv, h2]; rfl
        · rw [h1, Option.bind_some, if_neg (by show ¬ ((u : Int) < 0); omega), hv, h4]
          show portmanteauref10_Strays.l0 (q + 20) s (wrap64 ((i : Int) + (m : Int))) = some (!(Lib.validD ((s.data.toList.drop i).drop m)))
          rw [wrap_id (by omega) (by omega), List.drop_drop, show (i : Int) + (m : Int) = ((i + m : Nat) : Int) by omega]
          exact strays_loop s hs d (q + 20) (i + m) h3 (by omega) (by omega)
      · have hl : i < s.data.toList.length := by simpa using hlt
        have hdr := List.drop_eq_getElem_cons hl
        have hbi : (s.data.toList[i]).toNat = by_ s i := by unfold by_; rw [List.getD_eq_getElem?_getD, List.getElem?_eq_getElem hl, Option.getD_some]
        have h1 : portmanteauref10_One.f (q + 20) s i = some (((by_ s i : Nat) : Int), 1) := by
          unfold portmanteauref10_One.f
          rw [if_pos (by omega), if_pos (by omega), bt_by s i hlt, if_pos (by omega), wrap_id (by omega) (by omega)]
        rw [h1, Option.bind_some, if_neg (by show ¬ (((by_ s i : Nat) : Int) < 0); omega), hdr, Lib.validD_cons _ _ (by rw [hbi]; omega)]
        show portmanteauref10_Strays.l0 (q + 20) s (wrap64 ((i : Int) + 1)) = _
        rw [wrap_id (by omega) (by omega), show (i : Int) + 1 = ((i + 1 : Nat) : Int) by omega]
        exact strays_loop s hs d (q + 20) (i + 1) (by omega) (by omega) (by omega)
    · rw [if_neg (by omega), List.drop_of_length_le (by simp; omega), Lib.validD_nil]; rfl
theorem strays_f (s : ByteArray) (hs : s.size ≤ 1000000) (k : Nat) (hk : s.size + 21 < k) : portmanteauref10_Strays.f k s = some (!(Lib.validD s.data.toList)) := by
  have := strays_loop s hs s.size k 0 (by omega) (by omega) hk
  rw [List.drop_zero] at this
  exact this
end Go.Proofs.YtloojhhjljneeaaDoor.Sv

/- Plain: the reference parses and prints paths as the program does. -/
namespace Go.Proofs.YtloojhhjljneeaaDoor.Ut
set_option linter.unusedVariables false
set_option linter.unusedSimpArgs false
open Go Go.RowKit Go.Proofs.YtloojhhjljneeaaDoor.P Go.Proofs.YtloojhhjljneeaaDoor.B Go.Proofs.YtloojhhjljneeaaDoor.Num Go.Proofs.YtloojhhjljneeaaDoor.Cur Go.Proofs.YtloojhhjljneeaaDoor.Cr Go.Proofs.YtloojhhjljneeaaDoor.Sv Go.Proofs.YtloojhhjljneeaaDoorW.PrintWords Go.Proofs.YtloojhhjljneeaaDoorW.PrintLast Go.Proofs.YtloojhhjljneeaaDoorW.PrintMore
theorem sumN_lt (l : List UInt8) : sumN l < 4294967296 := by unfold sumN; omega
theorem ext5 (s : ByteArray) : s.extract 5 s.size = strN (s.data.toList.drop 5) := by
  apply ext_list
  rw [extract_list, strN_data, List.take_of_length_le (by simp)]
theorem ext15 (s : ByteArray) : (s.extract 1 5).data.toList = (s.data.toList.drop 1).take 4 := by
  rw [extract_list, List.drop_take]
theorem refpath (s raw : ByteArray) (hs : s.size ≤ 2000) (hr : raw.size ≤ 2000) : portmanteauref14_ParsePath.f 3000 s raw = some ((pathW s raw).1, (pathW s raw).2.1, (pathW s raw).2.2) := by
  have hlen : s.data.toList.length = s.size := by simp
  unfold portmanteauref14_ParsePath.f pathW
  by_cases h5 : s.size < 5
  · rw [if_pos (by omega), if_pos (.inl h5), show (3000 : Nat) = 2999 + 1 from rfl, portmanteauref14_ParsePath.j0, if_pos rfl]
  · have hb := bt_by s 0 (by omega)
    have hbb : by_ s 0 = (s.data.toList.getD 0 0).toNat := rfl
    rw [if_neg (by omega), if_pos (by omega), show (0 : Int) = ((0 : Nat) : Int) from rfl, hb, hbb]
    obtain ⟨x, hx⟩ : ∃ x, (s.data.toList.getD 0 0).toNat = x := ⟨_, rfl⟩
    rw [hx]
    by_cases h1 : x = 1
    · have hbf : ((x : Int) != 1) = false := by simp; omega
      rw [hbf, if_neg (by omega), show (3000 : Nat) = 2999 + 1 from rfl, portmanteauref14_ParsePath.j0, if_neg (by decide), if_pos (by decide), if_pos (by omega), ref_number_eq _ (by rw [ByteArray.size_extract]; omega) 2999 (by omega), Option.bind_some, rsum_f raw 2999 (by omega) (by omega), Option.bind_some, ext15]
      have hsl := sumN_lt raw.data.toList
      have hw : IntKind.u64.wrap ((sumN raw.data.toList : Nat) : Int) = ((sumN raw.data.toList : Nat) : Int) := by simp [IntKind.wrap, IntKind.bits, IntKind.signed]; omega
      rw [hw]
      by_cases hy : leN ((s.data.toList.drop 1).take 4) = sumN raw.data.toList
      · rw [if_pos (by omega), if_neg (by omega), ext5, strays_f _ (by rw [strN_size, List.length_drop]; omega) 2999 (by rw [strN_size, List.length_drop]; omega), Option.bind_some, strN_data]
        cases hv : Lib.validD (s.data.toList.drop 5) with
        | true => simp
        | false => simp
      · rw [if_neg (by omega), if_pos hy]
        try rfl
    · have hbt : ((x : Int) != 1) = true := by simp; omega
      rw [hbt, if_pos (.inr h1), show (3000 : Nat) = 2999 + 1 from rfl, portmanteauref14_ParsePath.j0, if_pos rfl]
def printW (path raw : ByteArray) : ByteArray := strN [1] ++ strN (ofN 4 (sumN raw.data.toList)) ++ path
theorem progprint (path raw : ByteArray) (hs : path.size ≤ 2000) (hr : raw.size ≤ 2000) : field_PrintPath.f 3000 path raw = some (printW path raw) := by
  have hsl := sumN_lt raw.data.toList
  have hsz : (strN (ofN 4 (sumN raw.data.toList))).size = 4 := by rw [strN_size, ofN_length]
  unfold field_PrintPath.f field_sum.f
  rw [if_pos (by omega), Option.bind_some, four_eq _ (by omega) 3000 (by omega), Option.bind_some, hsz, if_pos (by omega), if_pos (by omega)]
  rfl
theorem refprint (path raw : ByteArray) (hs : path.size ≤ 2000) (hr : raw.size ≤ 2000) : portmanteauref14_PrintPath.f 3000 path raw = some (printW path raw) := by
  have hsl := sumN_lt raw.data.toList
  have hsz : (strN (ofN 4 (sumN raw.data.toList))).size = 4 := by rw [strN_size, ofN_length]
  have hw : IntKind.u64.wrap ((sumN raw.data.toList : Nat) : Int) = ((sumN raw.data.toList : Nat) : Int) := by simp [IntKind.wrap, IntKind.bits, IntKind.signed]; omega
  have e1 := ref_of_eq 1 (by decide) 1 3000 (by omega)
  have e4 := ref_of_eq (sumN raw.data.toList) (by omega) 4 3000 (by omega)
  have o1 : ofI 1 1 = [1] := by decide
  have o4 : ofI (sumN raw.data.toList) 4 = ofN 4 (sumN raw.data.toList) := rfl
  rw [o1] at e1
  rw [o4] at e4
  unfold portmanteauref14_PrintPath.f
  rw [show ((1 : Nat) : Int) = 1 from rfl] at e1
  rw [e1, Option.bind_some, rsum_f raw 3000 (by omega) (by omega), Option.bind_some, hw, e4, Option.bind_some, hsz, strN_size, if_pos (by simp), if_pos (by simp; omega)]
  rfl
end Go.Proofs.YtloojhhjljneeaaDoor.Ut

/- Plain: what is printed is parsed as it was. -/
namespace Go.Proofs.YtloojhhjljneeaaDoor.Bk
set_option linter.unusedVariables false
set_option linter.unusedSimpArgs false
open Go Go.RowKit Go.Proofs.YtloojhhjljneeaaDoor.P Go.Proofs.YtloojhhjljneeaaDoor.B Go.Proofs.YtloojhhjljneeaaDoor.Num Go.Proofs.YtloojhhjljneeaaDoor.Cur Go.Proofs.YtloojhhjljneeaaDoor.Cr Go.Proofs.YtloojhhjljneeaaDoor.Ut Go.Proofs.YtloojhhjljneeaaDoorW.PrintWords Go.Proofs.YtloojhhjljneeaaDoorW.PrintLast Go.Proofs.YtloojhhjljneeaaDoorW.PrintMore
theorem le_of (c n : Nat) (h : n < 256 ^ c) : leN (ofN c n) = n := by rw [leN_ofN, Nat.mod_eq_of_lt h]
theorem wide_back (x0 x1 x2 x3 : Int) (h0 : 0 ≤ x0 ∧ x0 < 18446744073709551616) (h1 : 0 ≤ x1 ∧ x1 < 18446744073709551616) (h2 : 0 ≤ x2 ∧ x2 < 18446744073709551616) (h3 : 0 ≤ x3 ∧ x3 < 4294967296) :
    Wd.wrest [true, true, true, true] 4 0 (Wd.wprs [true, true, true, true] [x0, x1, x2, x3] 4) [0, 0, 0, 0] = ([x0, x1, x2, x3], 0) := by
  have e : Wd.wprs [true, true, true, true] [x0, x1, x2, x3] 4 = ofN 8 x0.toNat ++ (ofN 8 x1.toNat ++ (ofN 8 x2.toNat ++ (ofN 4 x3.toNat ++ []))) := by
    simp [Wd.wprs, Wd.wpiece, Wd.wid]
  have l8 : ∀ n, (ofN 8 n).length = 8 := ofN_length 8
  have l4 : ∀ n, (ofN 4 n).length = 4 := ofN_length 4
  rw [e, Wd.wrest_take rfl (by simp [Wd.wid, l8, l4]), Wd.wrest_take rfl (by simp [Wd.wid, l8, l4]), Wd.wrest_take rfl (by simp [Wd.wid, l8, l4]), Wd.wrest_take rfl (by simp [Wd.wid, l8, l4])]
  simp only [show Wd.wid 0 = 8 from rfl, show Wd.wid (0 + 1) = 8 from rfl, show Wd.wid (0 + 1 + 1) = 8 from rfl, show Wd.wid (0 + 1 + 1 + 1) = 4 from rfl, List.take_left' (l8 _), List.drop_left' (l8 _), List.take_left' (l4 _), List.drop_left' (l4 _)]
  rw [le_of 8 _ (by simp; omega), le_of 8 _ (by simp; omega), le_of 8 _ (by simp; omega), le_of 4 _ (by simp; omega)]
  rw [Wd.wrest]
  simp
  omega
theorem i32_back (x : Int) (h : -2147483648 ≤ x ∧ x ≤ 2147483647) : St.i32 (x % 4294967296).toNat = x := by
  unfold St.i32; split <;> omega
theorem stamp_back (x0 x1 x2 : Int) (h0 : -2147483648 ≤ x0 ∧ x0 ≤ 2147483647) (h1 : -2147483648 ≤ x1 ∧ x1 ≤ 2147483647) (h2 : -2147483648 ≤ x2 ∧ x2 ≤ 2147483647) :
    St.parsed (St.prints 7 false x0 x1 x2) false = (7, x0, x1, x2, 0) ∧ St.parsed (St.prints 7 true x0 x1 x2) true = (7, x0, 0, 0, 0) := by
  have l4 : ∀ n, (ofN 4 n).length = 4 := ofN_length 4
  have t0 : St.told 7 0 false = true := by decide
  have t1 : St.told 7 1 false = true := by decide
  have t2 : St.told 7 2 false = true := by decide
  have u0 : St.told 7 0 true = true := by decide
  have u1 : St.told 7 1 true = false := by decide
  have u2 : St.told 7 2 true = false := by decide
  have e1 : St.prints 7 false x0 x1 x2 = 7 :: (ofN 4 (x0 % 4294967296).toNat ++ (ofN 4 (x1 % 4294967296).toNat ++ (ofN 4 (x2 % 4294967296).toNat ++ []))) := by
    simp [St.prints, St.piece, t0, t1, t2]
  have e2 : St.prints 7 true x0 x1 x2 = 7 :: (ofN 4 (x0 % 4294967296).toNat ++ []) := by
    simp [St.prints, St.piece, u0, u1, u2]
  have q : ∀ x : Int, leN (ofN 4 (x % 4294967296).toNat) = (x % 4294967296).toNat := fun x => le_of 4 _ (by simp; omega)
  constructor
  · rw [e1]
    unfold St.parsed
    dsimp only
    rw [show (7 : UInt8).toNat = 7 from rfl, if_neg (by decide), St.rest_take t0 (by simp [l4]), St.rest_take t1 (by simp [l4]), St.rest_take t2 (by simp [l4])]
    simp only [List.take_left' (l4 _), List.drop_left' (l4 _), q, i32_back x0 h0, i32_back x1 h1, i32_back x2 h2]
    simp [St.rest]
  · rw [e2]
    unfold St.parsed
    dsimp only
    rw [show (7 : UInt8).toNat = 7 from rfl, if_neg (by decide), St.rest_take u0 (by simp [l4]), St.rest_skip u1, St.rest_skip u2]
    simp only [List.take_left' (l4 _), List.drop_left' (l4 _), q, i32_back x0 h0]
    simp [St.rest]
theorem number_eq8 (l : List UInt8) (h : l.length ≤ 8) : cursor_Number.f 9 (strN l) = some ((leN l : Int), 0) := by
  unfold cursor_Number.f
  rw [if_neg (by rw [strN_size]; omega), number_strN l h 9 (by omega)]
  rfl
theorem owner_back (u g : Nat) (hu : u < 4294967296) (hg : g < 4294967296) : field_ParseOwner.f 9 (strN ([1] ++ ([4] ++ (ofN 4 u ++ ([4] ++ (ofN 4 g ++ [])))))) = some ((u : Int), (g : Int), 0) := by
  have l4 : ∀ n, (ofN 4 n).length = 4 := ofN_length 4
  obtain ⟨U, hU⟩ : ∃ U, ofN 4 u = U := ⟨_, rfl⟩
  obtain ⟨V, hV⟩ : ∃ V, ofN 4 g = V := ⟨_, rfl⟩
  have lu : U.length = 4 := by rw [← hU]; exact l4 u
  have lv : V.length = 4 := by rw [← hV]; exact l4 g
  have vu : leN U = u := by rw [← hU]; exact le_of 4 u (by simpa using hu)
  have vv : leN V = g := by rw [← hV]; exact le_of 4 g (by simpa using hg)
  rw [hU, hV]
  have hA := At.start (strN ([1] ++ ([4] ++ (U ++ ([4] ++ (V ++ [])))))) (by rw [strN_size]; simp [lu, lv])
  rw [strN_data] at hA
  obtain ⟨s, hs⟩ : ∃ s, strN ([1] ++ ([4] ++ (U ++ ([4] ++ (V ++ []))))) = s := ⟨_, rfl⟩
  rw [hs] at hA ⊢
  have h1 := one_at (m := [1]) hA rfl 9 (by omega)
  have A1 := At.on (m := [1]) hA
  have h2 := one_at (m := [4]) A1 rfl 9 (by omega)
  have A2 := At.on (m := [4]) A1
  have h3 := take_at (n := 4) (m := U) A2 (by omega)
  have A3 := At.on (m := U) A2
  have h4 := one_at (m := [4]) A3 rfl 9 (by omega)
  have A4 := At.on (m := [4]) A3
  have h5 := take_at (n := 4) (m := V) A4 (by omega)
  have A5 := At.on (m := V) A4
  have hl := left_at A5
  have n1 : leN [(1 : UInt8)] = 1 := by decide
  have n4 : leN [(4 : UInt8)] = 4 := by decide
  rw [n1] at h1
  rw [n4] at h2 h4
  have w4 : wrap64 (((4 : Nat) : Int)) = 4 := wrap_id (by omega) (by omega)
  unfold field_ParseOwner.f cursor_Over.f
  rw [Option.bind_some]; dsimp only
  rw [h1, Option.bind_some]; dsimp only
  rw [h2, Option.bind_some]; dsimp only
  rw [w4, h3, Option.bind_some]; dsimp only
  rw [number_eq8 U (by omega), Option.bind_some]; dsimp only
  rw [h4, Option.bind_some]; dsimp only
  rw [w4, h5, Option.bind_some]; dsimp only
  rw [number_eq8 V (by omega), Option.bind_some]; dsimp only
  unfold cursor_Cursor_Err.f cursor_Cursor_Left.f
  rw [Option.bind_some]; dsimp only
  rw [if_pos rfl, Option.bind_some]; dsimp only
  rw [hl, if_neg (by simp), if_pos (by decide), if_pos rfl, show (9 : Nat) = 8 + 1 from rfl, field_ParseOwner.j0, vu, vv]
  rw [if_neg (by decide), if_neg (by omega), if_neg (by omega)]
  simp
  omega
theorem path_back (path raw : ByteArray) : pathW (printW path raw) raw = if Lib.validD path.data.toList = true then (path, true, 0) else (⟨#[]⟩, false, 20) := by
  have hsl := sumN_lt raw.data.toList
  have hd : (printW path raw).data.toList = 1 :: (ofN 4 (sumN raw.data.toList) ++ path.data.toList) := by
    unfold printW strN
    simp
  have hl4 := ofN_length 4 (sumN raw.data.toList)
  have hsz : (printW path raw).size = 5 + path.size := by
    have : (printW path raw).data.toList.length = 5 + path.size := by rw [hd]; simp [hl4]; omega
    simpa using this
  unfold pathW
  rw [if_neg (by rw [hd, hsz]; simp), hd]
  have e1 : ((1 : UInt8) :: (ofN 4 (sumN raw.data.toList) ++ path.data.toList)).drop 1 = ofN 4 (sumN raw.data.toList) ++ path.data.toList := rfl
  have e5 : ((1 : UInt8) :: (ofN 4 (sumN raw.data.toList) ++ path.data.toList)).drop 5 = path.data.toList := by
    rw [List.drop_succ_cons, List.drop_left' hl4]
  rw [e1, e5, List.take_left' hl4, le_of 4 _ (by simp; omega), if_neg (by simp), strN_of]
end Go.Proofs.YtloojhhjljneeaaDoor.Bk

/- What the data of a law's argument say of the memory: for any type that is made of whole numbers, bools, strings, structs and slices. -/
namespace Go.Proofs.YtloojhhjljneeaaDoor.Opens
set_option linter.unusedVariables false
set_option linter.unusedSimpArgs false
open Go Go.RowKit Go.Proofs.YtloojhhjljneeaaDoorW.PrintWords Go.Proofs.YtloojhhjljneeaaDoorW.PrintLast Go.Proofs.YtloojhhjljneeaaDoorW.PrintMore
section
variable {P : Program}
/-- Whatever reads as data of type t says an element of kind d. -/
structure Opens {α : Type} (P : Program) (t : TypeId) (d : Kd α) (ok : α → Prop) : Prop where
  size : P.cellsOf t = d.sz
  get : ∀ {H : Type} {enc : TypeId × Value → H} {w : World} {base : Nat} {spare : Nat → Bool} {held : Bool} {fuel : Nat} {cs : List Value} {x : DataW H × List MemPlace},
    DataW.trod enc P w base spare held fuel t cs = some x → ∃ a, d.K w a cs ∧ ok a
theorem Opens.int {t : TypeId} {k : IntKind} (hu : P.underlying t = some (.int k)) (hs : P.cellsOf t = 1) : Opens P t (Kd.int k) (fun n => (Lit.int k n).wf = true) :=
  ⟨hs, fun h => by obtain ⟨n, rfl, _, hw⟩ := DataW.trod_int hu h; exact ⟨n, rfl, hw⟩⟩
theorem Opens.bool {t : TypeId} (hu : P.underlying t = some .bool) (hs : P.cellsOf t = 1) : Opens P t Kd.bool (fun _ => True) :=
  ⟨hs, fun h => by obtain ⟨b, rfl, _⟩ := DataW.trod_bool hu h; exact ⟨b, rfl, trivial⟩⟩
theorem Opens.string {t : TypeId} (hu : P.underlying t = some .string) (hs : P.cellsOf t = 1) : Opens P t Kd.string (fun s => s.size ≤ maxLen) :=
  ⟨hs, fun h => by obtain ⟨s, rfl, _, hl⟩ := DataW.trod_string hu h; exact ⟨s, rfl, hl⟩⟩
/-- A slice's cells: its length, and the row that is read. -/
theorem slice_row {α : Type} {t e : TypeId} {d : Kd α} {ok : α → Prop} (hu : P.underlying t = some (.slice e)) (ho : Opens P e d ok)
    {H : Type} {enc : TypeId × Value → H} {w : World} {base : Nat} {spare : Nat → Bool} {held : Bool} {fuel : Nat} {cs : List Value} {x : DataW H × List MemPlace}
    (h : DataW.trod enc P w base spare held fuel t cs = some x) :
    ∃ A c, ∃ xs : List α, cs = [.slice A xs.length c] ∧ xs.length ≤ c ∧ d.C w A xs.length xs ∧ (∀ a ∈ xs, ok a) ∧ (x.1 = .nil ∧ xs = [] ∨ ∃ elems rest, x.1 = .slice elems rest ∧ elems.length = xs.length) := by
  rcases DataW.trod_slice hu h with ⟨rfl, rfl⟩ | ⟨a, len, cap, elems, rest, n, _, rfl, rfl, _, hl, hm, hlen, hel, _, _⟩
  · exact ⟨none, 0, [], rfl, Nat.le_refl _, ⟨rfl, by simp, fun h0 => absurd h0 (by simp)⟩, (fun a ha => by cases ha), .inl ⟨rfl, rfl⟩⟩
  · have each : ∀ i : Fin len, ∃ p, ok p ∧ ∃ c, c.length = d.sz ∧ d.K w p c ∧ ∀ j u, c[j]? = some u → w.cell? (a.add (i * d.sz + j)) = some u := by
      intro i
      have h1 := hel i i.2
      have h2 : (i : Nat) < elems.length := by have := i.2; omega
      rw [List.getElem?_eq_getElem h2, Option.bind_eq_some_iff] at h1
      obtain ⟨cs', hcs, ht⟩ := h1
      obtain ⟨_, hcl, hcc⟩ := World.cells?_some hcs
      obtain ⟨p, hp, hok⟩ := ho.get ht
      rw [ho.size] at hcl hcc
      refine ⟨p, hok, cs', hcl, hp, fun j u hj => ?_⟩
      have hj2 : j < d.sz := by
        rw [← hcl]
        exact (List.getElem?_eq_some_iff.1 hj).1
      have h3 := hcc j hj2
      rw [hj] at h3
      rw [← h3, add_add]
    have hg : ∀ (j : Nat) (p : α), (List.ofFn fun i => Classical.choose (each i))[j]? = some p → ∃ hj : j < len, p = Classical.choose (each ⟨j, hj⟩) := by
      intro j p hp
      obtain ⟨hj, he⟩ := List.getElem?_eq_some_iff.1 hp
      rw [List.length_ofFn] at hj
      refine ⟨hj, ?_⟩
      rw [← he, List.getElem_ofFn]
    refine ⟨some a, cap, List.ofFn fun i => Classical.choose (each i), by rw [List.length_ofFn], by rw [List.length_ofFn]; exact hl, ⟨rfl, ?_, fun _ => ⟨a, rfl, fun j p hp => ?_⟩⟩, ?_, .inr ⟨_, _, rfl, by rw [List.length_ofFn, List.length_map, hlen]⟩⟩
    · rw [List.length_ofFn]
      unfold maxLen at hm
      omega
    · obtain ⟨hj, rfl⟩ := hg j p hp
      obtain ⟨_, c, hc, hk, hcell⟩ := Classical.choose_spec (each ⟨j, hj⟩)
      exact ⟨c, hc, hk, hcell⟩
    · intro p hp
      obtain ⟨j, hj⟩ := List.getElem?_of_mem hp
      obtain ⟨hj', rfl⟩ := hg j p hj
      exact (Classical.choose_spec (each ⟨j, hj'⟩)).1
theorem Opens.slice {α : Type} {t e : TypeId} {d : Kd α} {ok : α → Prop} (hu : P.underlying t = some (.slice e)) (hs : P.cellsOf t = 1) (ho : Opens P e d ok) : Opens P t (Kd.slice e d) (fun xs => ∀ a ∈ xs, ok a) :=
  ⟨hs, fun h => by obtain ⟨A, c, xs, rfl, hl, hc, hok, _⟩ := slice_row hu ho h; exact ⟨xs, ⟨A, c, rfl, hl, hc⟩, hok⟩⟩
/-- A law's slice argument: what it reads as, and how long it is at most. -/
theorem open_row {α : Type} {t e : TypeId} {d : Kd α} {ok : α → Prop} (hu : P.underlying t = some (.slice e)) (ho : Opens P e d ok)
    {H : Type} {enc : TypeId × Value → H} {w : World} {base : Nat} {spare : Nat → Bool} {held : Bool} {a : Option Addr} {len cap : Nat} {dd : DataW H} {ps : List MemPlace} {ts : List TypeId} {ds : List (DataW H)} {j : Nat}
    (hsz : (DataW.weightsEach P ts ds).all (· ≤ reachBytes) = true) (ht : ts[j]? = some t) (hd : ds[j]? = some dd)
    (h : DataW.Trod enc P w base spare held t (.slice a len cap) dd ps) :
    ∃ xs : List α, xs.length = len ∧ len ≤ cap ∧ d.C w a xs.length xs ∧ (∀ x ∈ xs, ok x) ∧ xs.length * P.bytesOf e ≤ 140737488351232 := by
  obtain ⟨fuel, hf⟩ := h
  obtain ⟨A, c, xs, hcs, hl, hc, hok, hx⟩ := slice_row hu ho hf
  simp [Value.cells] at hcs
  obtain ⟨rfl, rfl, rfl⟩ := hcs
  refine ⟨xs, rfl, hl, hc, hok, ?_⟩
  rcases hx with ⟨_, rfl⟩ | ⟨elems, rest, hx, he⟩
  · simp
  · simp only at hx
    subst hx
    have z := Go.sized_slice hsz ht hd hu
    have h3 : xs.length ≤ elems.length + rest.length := by omega
    exact Nat.le_trans (Nat.mul_le_mul_right _ h3) z
end
end Go.Proofs.YtloojhhjljneeaaDoor.Opens

/- The program's ParseWide: four numbers through pointers into a struct: the walk. -/
namespace Go.Proofs.YtloojhhjljneeaaDoor.Wd
set_option linter.unusedVariables false
set_option linter.unusedSimpArgs false
open Go Go.RowKit Go.Proofs.YtloojhhjljneeaaDoor.P Go.Proofs.YtloojhhjljneeaaDoor.B Go.Proofs.YtloojhhjljneeaaDoor.Num Go.Proofs.YtloojhhjljneeaaDoor.Cur Go.Proofs.YtloojhhjljneeaaDoorW.PrintWords Go.Proofs.YtloojhhjljneeaaDoorW.PrintLast Go.Proofs.YtloojhhjljneeaaDoorW.PrintMore

theorem kp {w W W1 : World} {gc g t : Nat} {s : ByteArray} {a e : Int} {cs : Array Value} (hc : IsS71 w W gc s a e) (h : W.heap[g]? = some (.cells cs t (0, 0))) (ht : t ≠ 71) (hk : KeepBut W W1 gc none) : W1.heap[g]? = some (.cells cs t (0, 0)) :=
  hk.blk h (Ne.symm (IsS71.ne_blk hc h ht)) (by simp)
theorem blk_ne_of {W : World} {g g2 : Nat} {o o2 : Obj} (h : W.heap[g]? = some o) (h2 : W.heap[g2]? = some o2) (hne : g ≠ g2) : g ≠ g2 := hne
theorem set3 (i : Nat) (hi : i < 3) (x0 x1 x2 z : Int) : [x0, x1, x2, 0].set i z = [if i = 0 then z else x0, if i = 1 then z else x1, if i = 2 then z else x2, 0] := by
  rcases (show i = 0 ∨ i = 1 ∨ i = 2 by omega) with rfl | rfl | rfl <;> simp
theorem set3b {W : World} {b T i : Nat} {x0 x1 x2 x3 z : Int} (hi : i < 3) (h : W.heap[b]? = some (.cells #[.int .u64 x0, .int .u64 x1, .int .u64 x2, .int .u32 x3] T (0, 0))) :
    (W.setCell ⟨b, i, none⟩ (.int .u64 z)).heap[b]? = some (.cells #[.int .u64 (if i = 0 then z else x0), .int .u64 (if i = 1 then z else x1), .int .u64 (if i = 2 then z else x2), .int .u32 x3] T (0, 0)) := by
  have hbs := blk_set h i (.int .u64 z)
  rcases (show i = 0 ∨ i = 1 ∨ i = 2 by omega) with rfl | rfl | rfl <;> exact hbs
theorem cell3 {W : World} {b T : Nat} {x0 x1 x2 x3 : Int} (h : W.heap[b]? = some (.cells #[.int .u64 x0, .int .u64 x1, .int .u64 x2, .int .u32 x3] T (0, 0))) (i : Nat) (hi : i < 3) : ∃ u, W.cell? ⟨b, i, none⟩ = some (.int .u64 u) := by
  rcases (show i = 0 ∨ i = 1 ∨ i = 2 by omega) with rfl | rfl | rfl
  · exact ⟨_, blk_cell h 0⟩
  · exact ⟨_, blk_cell h 1⟩
  · exact ⟨_, blk_cell h 2⟩
set_option maxHeartbeats 4000000 in
set_option maxRecDepth 100000 in
theorem progwide_calls (s : ByteArray) (a0 a1 a2 a3 : Bool) (hs : s.size ≤ 1000000) (y0 y1 y2 y3 y4 : Int) (w : World) (h : wrest [a0, a1, a2, a3] 4 0 s.data.toList [0, 0, 0, 0] = ([y0, y1, y2, y3], y4)) :
    Calls Tryd.prog 10 #[.string s, .agg #[.bool a0, .bool a1, .bool a2, .bool a3]] w fun e w' => e = .returned (.tuple #[.agg #[.int .u64 y0, .int .u64 y1, .int .u64 y2, .int .u32 y3], .int .i64 y4]) ∧ Below w.heap.size w w' := by
  have hu1 := Tryd.underlying33
  have hu2 := Tryd.underlying37
  have HG := Aside0.mk (G.start [a0, a1, a2, a3] s hs)
  rw [h] at HG
  clear h
  have HB0 := Aside0.mk (below_alloc (below_alloc (Below.refl w.heap.size w) (.cells #[.bool a0, .bool a1, .bool a2, .bool a3] 37)) (.cells #[.int .u64 0, .int .u64 0, .int .u64 0, .int .u32 0] 33))
  have H30 := Aside0.mk (blk_alloc (heap_alloc_new w (.cells #[.bool a0, .bool a1, .bool a2, .bool a3] 37)) (.cells #[.int .u64 0, .int .u64 0, .int .u64 0, .int .u32 0] 33))
  have H40 := Aside0.mk (heap_alloc_new (w.alloc (.cells #[.bool a0, .bool a1, .bool a2, .bool a3] 37)) (.cells #[.int .u64 0, .int .u64 0, .int .u64 0, .int .u32 0] 33))
  simp only [World.size_alloc] at H40
  go_enter Tryd.func10, Tryd.ntmps10
  go_upto_region 1 with (fail)
  generalize (w.alloc (.cells #[.bool a0, .bool a1, .bool a2, .bool a3] 37)).alloc (.cells #[.int .u64 0, .int .u64 0, .int .u64 0, .int .u32 0] 33) = w0 at HB0 H30 H40 ⊢
  go_upto_region 2 with (go_at_call 17; refine (cursor_Over.calls s s 0 0 w _ HB0.out rfl).mono ?_; rintro e w1 ⟨gc, rfl, hi, hb, hb2⟩; have HC1 := Aside0.mk hi; have HB1 := Aside0.mk hb; have H31 := Aside0.mk (blk_below H30.out hb2); have H41 := Aside0.mk (blk_below H40.out hb2); clear hi hb hb2)
  clear HB0 H30 H40
  have hx30 := blk_cell (blk_alloc H31.out (.cells #[.int .u64 0, .int .u64 0, .int .u64 0, .int .u32 0] 33)) 0
  have hx31 := blk_cell (blk_alloc H31.out (.cells #[.int .u64 0, .int .u64 0, .int .u64 0, .int .u32 0] 33)) 1
  have hx32 := blk_cell (blk_alloc H31.out (.cells #[.int .u64 0, .int .u64 0, .int .u64 0, .int .u32 0] 33)) 2
  have HC2 := Aside0.mk (HC1.out.alloc (.cells #[.int .u64 0, .int .u64 0, .int .u64 0, .int .u32 0] 33))
  have HB2 := Aside0.mk (below_alloc HB1.out (.cells #[.int .u64 0, .int .u64 0, .int .u64 0, .int .u32 0] 33))
  have H32 := Aside0.mk (blk_alloc H31.out (.cells #[.int .u64 0, .int .u64 0, .int .u64 0, .int .u32 0] 33))
  have H42 := Aside0.mk (blk_alloc H41.out (.cells #[.int .u64 0, .int .u64 0, .int .u64 0, .int .u32 0] 33))
  have H72 := Aside0.mk (heap_alloc_new w1 (.cells #[.int .u64 0, .int .u64 0, .int .u64 0, .int .u32 0] 33))
  go_upto_region 3 with (fail)
  generalize w1.alloc (.cells #[.int .u64 0, .int .u64 0, .int .u64 0, .int .u32 0] 33) = w2 at HC2 HB2 H32 H42 H72 hx30 hx31 hx32 ⊢
  have hn3 : w.heap.size ≠ w1.heap.size := Nat.ne_of_lt (blk_lt H31.out)
  have hn4 : w.heap.size + 1 ≠ w1.heap.size := Nat.ne_of_lt (blk_lt H41.out)
  have hbw := Aside0.mk (show w.heap.size ≤ w1.heap.size from HB1.out.size)
  generalize w1.heap.size = b7 at H72 hbw hn3 hn4 ⊢
  clear HC1 HB1 H31 H41
  have HC3 := Aside0.mk (HC2.out.alloc (.cells #[.bool a0, .pointer (some ⟨b7, 0, none⟩), .bool a1, .pointer (some ⟨b7, 1, none⟩), .bool a2, .pointer (some ⟨b7, 2, none⟩)] 61))
  have HB3 := Aside0.mk (below_alloc HB2.out (.cells #[.bool a0, .pointer (some ⟨b7, 0, none⟩), .bool a1, .pointer (some ⟨b7, 1, none⟩), .bool a2, .pointer (some ⟨b7, 2, none⟩)] 61))
  have H33 := Aside0.mk (blk_alloc H32.out (.cells #[.bool a0, .pointer (some ⟨b7, 0, none⟩), .bool a1, .pointer (some ⟨b7, 1, none⟩), .bool a2, .pointer (some ⟨b7, 2, none⟩)] 61))
  have H43 := Aside0.mk (blk_alloc H42.out (.cells #[.bool a0, .pointer (some ⟨b7, 0, none⟩), .bool a1, .pointer (some ⟨b7, 1, none⟩), .bool a2, .pointer (some ⟨b7, 2, none⟩)] 61))
  have H73 := Aside0.mk (blk_alloc H72.out (.cells #[.bool a0, .pointer (some ⟨b7, 0, none⟩), .bool a1, .pointer (some ⟨b7, 1, none⟩), .bool a2, .pointer (some ⟨b7, 2, none⟩)] 61))
  have HS3 := Aside0.mk (heap_alloc_new w2 (.cells #[.bool a0, .pointer (some ⟨b7, 0, none⟩), .bool a1, .pointer (some ⟨b7, 1, none⟩), .bool a2, .pointer (some ⟨b7, 2, none⟩)] 61))
  go_wp2
  generalize w2.alloc (.cells #[.bool a0, .pointer (some ⟨b7, 0, none⟩), .bool a1, .pointer (some ⟨b7, 1, none⟩), .bool a2, .pointer (some ⟨b7, 2, none⟩)] 61) = w3 at HC3 HB3 H33 H43 H73 HS3 ⊢
  generalize w2.heap.size = bs at HS3 ⊢
  clear HC2 HB2 H32 H42 H72 hx30 hx31 hx32
  have hne37 := Aside0.mk (show w.heap.size ≠ b7 from hn3)
  have hne47 := Aside0.mk (show w.heap.size + 1 ≠ b7 from hn4)
  clear hn3 hn4
  go_loopw [26] (fun v26 wr => ∃ (i : Nat) (x0 x1 x2 : Int) (a e : Int), v26 = .int .i64 i ∧ i ≤ 3 ∧ Aside0 (G [a0, a1, a2, a3] s i a e [x0, x1, x2, 0] ([y0, y1, y2, y3], y4)) ∧ Aside0 (IsS71 w wr gc s a e)
      ∧ Aside0 (wr.heap[w.heap.size]? = some (.cells #[.bool a0, .bool a1, .bool a2, .bool a3] 37 (0, 0))) ∧ Aside0 (wr.heap[w.heap.size + 1]? = some (.cells #[.int .u64 0, .int .u64 0, .int .u64 0, .int .u32 0] 33 (0, 0)))
      ∧ Aside0 (wr.heap[b7]? = some (.cells #[.int .u64 x0, .int .u64 x1, .int .u64 x2, .int .u32 0] 33 (0, 0)))
      ∧ Aside0 (wr.heap[bs]? = some (.cells #[.bool a0, .pointer (some ⟨b7, 0, none⟩), .bool a1, .pointer (some ⟨b7, 1, none⟩), .bool a2, .pointer (some ⟨b7, 2, none⟩)] 61 (0, 0))) ∧ Aside0 (Below w.heap.size w wr))
    (fun v26 _ => 3 - (intOf v26).toNat)
  case atStart => exact ⟨0, 0, 0, 0, 0, 0, rfl, by omega, HG, HC3, H33, H43, H73, HS3, HB3⟩
  case round =>
    clear HG HC3 H33 H43 H73 HS3 HB3
    obtain ⟨i, x0, x1, x2, a, e, rfl, hi, HG, HC1, H31, H41, H71, HS1, HB1⟩ := hrel
    by_cases hlt : i < 3
    · have hd : decide (i < 3) = true := decide_eq_true hlt
      have hs0 : wr.cell? ⟨bs, i * 2, none⟩ = some (.bool ([a0, a1, a2, a3].getD i false)) := by
        have hi3 : i = 0 ∨ i = 1 ∨ i = 2 := by omega
        rcases hi3 with rfl | rfl | rfl
        · exact blk_cell HS1.out 0
        · exact blk_cell HS1.out 2
        · exact blk_cell HS1.out 4
      have hs1 : wr.cell? ⟨bs, i * 2 + 1, none⟩ = some (.pointer (some ⟨b7, i, none⟩)) := by
        have hi3 : i = 0 ∨ i = 1 ∨ i = 2 := by omega
        rcases hi3 with rfl | rfl | rfl
        · exact blk_cell HS1.out 1
        · exact blk_cell HS1.out 3
        · exact blk_cell HS1.out 5
      obtain ⟨b, hb⟩ : ∃ b, [a0, a1, a2, a3].getD i false = b := ⟨_, rfl⟩
      rw [hb] at hs0
      have HBV := Aside0.mk hb
      have hi1 : decide ((i : Int) < 3) = true := decide_eq_true (by omega)
      have HC2 := Aside0.mk (HC1.out.alloc (.cells #[.bool b, .pointer (some ⟨b7, i, none⟩)] 61))
      have HB2 := Aside0.mk (below_alloc HB1.out (.cells #[.bool b, .pointer (some ⟨b7, i, none⟩)] 61))
      have H32 := Aside0.mk (blk_alloc H31.out (.cells #[.bool b, .pointer (some ⟨b7, i, none⟩)] 61))
      have H42 := Aside0.mk (blk_alloc H41.out (.cells #[.bool b, .pointer (some ⟨b7, i, none⟩)] 61))
      have H72 := Aside0.mk (blk_alloc H71.out (.cells #[.bool b, .pointer (some ⟨b7, i, none⟩)] 61))
      have HS2 := Aside0.mk (blk_alloc HS1.out (.cells #[.bool b, .pointer (some ⟨b7, i, none⟩)] 61))
      have HE := Aside0.mk (heap_alloc_new wr (.cells #[.bool b, .pointer (some ⟨b7, i, none⟩)] 61))
      clear hb
      cases b with
      | false =>
        go_wp2
        refine ⟨⟨i + 1, x0, x1, x2, a, e, by go_num, by omega, ⟨HG.out.off (by omega) HBV.out⟩, HC2, H32, H42, H72, HS2, HB2⟩, by simp [intOf]; omega⟩
      | true =>
        obtain ⟨v, a', e', hf, hg, hv0, hv1⟩ := HG.out.eight hlt HBV.out
        have FE := Aside0.mk hf
        have HG5 := Aside0.mk hg
        clear hf hg
        go_upto_region 7 with (fail)
        generalize wr.alloc (.cells #[.bool true, .pointer (some ⟨b7, i, none⟩)] 61) = wx at HC2 HB2 H32 H42 H72 HS2 HE ⊢
        refine start_ (n := 6) (S := fun w' => w'.cell? ⟨wr.heap.size, 1, none⟩ = some (.pointer (some ⟨b7, i, none⟩))) (ds := [5]) #[false, false, false, false, false, false] (by kernel_rfl) rfl rfl ((blk_cell HE.out 1)) (fun hHeld => ?_)
        refine pure_ (i := 0) (N := some 32) (v := ?_) (a' := ?_) #[true, false, false, false, false, false] rfl rfl (by kernel_rfl) (fun _ _ _ h => h) (Or.inl ⟨by rfl, ?_⟩) ?_ ?_
        rotate_left
        · intro w'
          go_simp
          with_reducible rfl
        rotate_left
        · simp only [Act.put, List.setIfInBounds_toArray, List.set_cons_zero, List.set_cons_succ, i64_w, i32_w]
          rfl
        refine pure_ (i := 2) (N := some 34) (v := ?_) (a' := ?_) #[true, false, true, false, false, false] rfl rfl (by kernel_rfl) (fun _ _ _ h => h) (Or.inl ⟨by rfl, ?_⟩) ?_ ?_
        rotate_left
        · intro w'
          go_simp
          with_reducible rfl
        rotate_left
        · simp only [Act.put, List.setIfInBounds_toArray, List.set_cons_zero, List.set_cons_succ, i64_w, i32_w]
          rfl
        refine take_ (i := 1) (N := some 33) (v := ?_) (a' := ?_) #[true, true, true, false, false, false] rfl rfl (by kernel_rfl) (fun _ _ _ h => h) (Or.inl ⟨by rfl, ?_⟩) hHeld ?_ ?_
        rotate_left
        · intro w' s0
          go_simp
          with_reducible rfl
        rotate_left
        · simp only [Act.put, List.setIfInBounds_toArray, List.set_cons_zero, List.set_cons_succ, i64_w, i32_w]
          rfl
        refine one_ (i := 3) (N := some 35) #[true, true, true, true, false, false] rfl rfl (by kernel_rfl) (by decide) (fun K hK => ?_)
        refine goes_ Tryd.func29 (by kernel_rfl) rfl #[.pointer (some ⟨gc, 0, none⟩)] (by rfl) rfl rfl (by simp only [List.map_toArray, List.map_cons, List.map_nil]; rfl) ?_
        with_reducible refine (cursor_Cursor_Eight.calls 40 gc s a e v s a' e' w _ (IsS71.drew HC2.out) (below_drew1 HB2.out) FE.out).mono ?_
        rintro e5 w5 ⟨rfl, hi5, hb, hk⟩
        refine ⟨_, rfl, ?_⟩
        have HC5 := Aside0.mk hi5; have HB5 := Aside0.mk hb; have HE5 := Aside0.mk (kp (IsS71.drew HC2.out) (blk_drew HE.out) (by decide) hk); have H35 := Aside0.mk (kp (IsS71.drew HC2.out) (blk_drew H32.out) (by decide) hk); have H45 := Aside0.mk (kp (IsS71.drew HC2.out) (blk_drew H42.out) (by decide) hk); have H75 := Aside0.mk (kp (IsS71.drew HC2.out) (blk_drew H72.out) (by decide) hk); have HS5 := Aside0.mk (kp (IsS71.drew HC2.out) (blk_drew HS2.out) (by decide) hk); clear hi5 hb hk
        have hcw := cell3 H75.out i hlt
        obtain ⟨u, hcw⟩ := hcw
        have hfw := blk_frozen H75.out i
        refine hK.out _ _ ((blk_cell HE5.out 1)) (fun hHeld => ?_)
        clear hK K
        refine norm_ (a' := ?_) ?_ ?_
        rotate_left
        · show Act.put _ (some 35) _ = _
          simp only [Act.put, List.setIfInBounds_toArray, List.set_cons_zero, List.set_cons_succ, i64_w, i32_w]
          rfl
        refine pure_ (i := 4) (N := some 36) (v := ?_) (a' := ?_) #[true, true, true, true, true, false] rfl rfl (by kernel_rfl) (fun _ _ _ h => h) (Or.inl ⟨by rfl, ?_⟩) ?_ ?_
        rotate_left
        · intro w'
          go_simp
          with_reducible rfl
        rotate_left
        · simp only [Act.put, List.setIfInBounds_toArray, List.set_cons_zero, List.set_cons_succ, i64_w, i32_w]
          rfl
        refine last_ (i := 5) (N := none) #[true, true, true, true, true, true] rfl rfl (by kernel_rfl) (by decide) (fun K hK => ?_)
        refine skip_ (w1 := ?_) (by rfl) rfl ?_ ?_
        rotate_left
        · go_simp
          rfl
        refine hK.out _ _ ?_
        clear hK K
        refine done_ (by kernel_rfl) ?_
        go_wp2
        refine ⟨⟨i + 1, _, _, _, a', e', by go_num, by omega, ⟨set3 i hlt x0 x1 x2 v ▸ HG5.out⟩, ⟨(HC5.out.far (p := ⟨b7, i, none⟩) (IsS71.ne_blk HC5.out H75.out (by decide)) _).drewN 1⟩, ⟨blk_drew (blk_far H35.out (p := ⟨b7, i, none⟩) (blk_ne_of H35.out H75.out hne37.out) _)⟩, ⟨blk_drew (blk_far H45.out (p := ⟨b7, i, none⟩) (blk_ne_of H45.out H75.out hne47.out) _)⟩, ⟨blk_drew (set3b hlt H75.out)⟩, ⟨blk_drew (blk_far HS5.out (p := ⟨b7, i, none⟩) (blk_ne HS5.out H75.out (by decide)) _)⟩, ⟨below_set HB5.out hbw.out⟩⟩, by simp [intOf]; omega⟩
    · have hd : decide (i < 3) = false := decide_eq_false hlt
      obtain rfl : i = 3 := by omega
      have h33 := blk_cell H31.out 3
      cases a3 with
      | true =>
        obtain ⟨v, a', e', hf, hg, hv0, hv1⟩ := HG.out.four rfl
        have FF := Aside0.mk hf
        clear hf
        have HEF : Aside0 (cursor_Cursor_Err.f s a' e' = some (e', s, a', e')) := ⟨rfl⟩
        by_cases he : e' = 0
        · subst he
          obtain ⟨L, hL, hbad, hok⟩ := G.end_ok hg
          have HLF : Aside0 (cursor_Cursor_Left.f s a' 0 = some ((L : Int), s, a', 0)) := ⟨by unfold cursor_Cursor_Left.f; rw [hL]⟩
          clear hL
          by_cases hp : 0 < L
          · have hp1 : decide (0 < L) = true := decide_eq_true hp
            obtain ⟨⟨rfl, rfl, rfl, rfl⟩, rfl⟩ : (y0 = 0 ∧ y1 = 0 ∧ y2 = 0 ∧ y3 = 0) ∧ y4 = 31 := by simpa using hbad hp
            clear hbad hok hg HG
            go_wp2_with (first
              | (go_at_call 19; (with_reducible refine (cursor_Cursor_Four.calls 40 gc _ _ _ _ _ _ _ w _ HC1.out HB1.out FF.out).mono ?_); rintro e5 w5 ⟨rfl, hi5, hb, hk⟩; have HC5 := Aside0.mk hi5; have HB5 := Aside0.mk hb; have H45 := Aside0.mk (kp HC1.out H41.out (by decide) hk); have H75 := Aside0.mk (kp HC1.out H71.out (by decide) hk); have hcw := blk_cell H75.out 3; have hfw := blk_frozen H75.out 3; have HC6 := Aside0.mk (HC5.out.far (p := ⟨b7, 3, none⟩) (IsS71.ne_blk HC5.out H75.out (by decide)) (.int .u32 v)); have HB6 := Aside0.mk (below_set (g := b7) (j := 3) (v := .int .u32 v) HB5.out hbw.out); have H46 := Aside0.mk (blk_far H45.out (p := ⟨b7, 3, none⟩) (blk_ne_of H45.out H75.out hne47.out) (.int .u32 v)); have H76 := Aside0.mk (blk_set H75.out 3 (.int .u32 v)); clear hi5 hb hk)
              | (go_at_call 22; (with_reducible refine (cursor_Cursor_Err.calls gc _ _ _ _ _ _ _ w _ HC6.out HB6.out HEF.out).mono ?_); rintro e7 w7 ⟨rfl, hi5, hb, hk⟩; have HC7 := Aside0.mk hi5; have HB7 := Aside0.mk hb; have H47 := Aside0.mk (kp HC6.out H46.out (by decide) hk); have H77 := Aside0.mk (kp HC6.out H76.out (by decide) hk); have hy0 := blk_cell H47.out 0; have hy1 := blk_cell H47.out 1; have hy2 := blk_cell H47.out 2; have hy3 := blk_cell H47.out 3; have fy0 := blk_frozen H47.out 0; have fy1 := blk_frozen H47.out 1; have fy2 := blk_frozen H47.out 2; have fy3 := blk_frozen H47.out 3; clear hi5 hb hk)
              | (go_at_call 21; (with_reducible refine (cursor_Cursor_Left.calls gc _ _ _ _ _ _ _ w _ HC7.out HB7.out HLF.out).mono ?_); rintro e8 w8 ⟨rfl, hi5, hb, hk⟩; have HB8 := Aside0.mk hb; have H48 := Aside0.mk (kp HC7.out H47.out (by decide) hk); have H78 := Aside0.mk (kp HC7.out H77.out (by decide) hk); have hz0 := blk_cell H48.out 0; have hz1 := blk_cell H48.out 1; have hz2 := blk_cell H48.out 2; have hz3 := blk_cell H48.out 3; have fz0 := blk_frozen H48.out 0; have fz1 := blk_frozen H48.out 1; have fz2 := blk_frozen H48.out 2; have fz3 := blk_frozen H48.out 3; have hx0 := blk_cell H78.out 0; have hx1 := blk_cell H78.out 1; have hx2 := blk_cell H78.out 2; have hx3 := blk_cell H78.out 3; clear hi5 hb hk))
            refine bodyPost_ret (v := .tuple #[.agg #[.int .u64 0, .int .u64 0, .int .u64 0, .int .u32 0], .int .i64 31]) (by simp [results, Tryd.results10, go_sem, hz0, hz1, hz2, hz3]) rfl ⟨rfl, below_set (below_set (below_set (below_set HB8.out (Nat.le_succ _)) (Nat.le_succ _)) (Nat.le_succ _)) (Nat.le_succ _)⟩
          · have hp1 : decide (0 < L) = false := decide_eq_false hp
            obtain ⟨⟨rfl, rfl, rfl, rfl⟩, rfl⟩ : (x0 = y0 ∧ x1 = y1 ∧ x2 = y2 ∧ v = y3) ∧ y4 = 0 := by simpa [eq_comm] using hok (by omega)
            clear hbad hok hg HG
            go_wp2_with (first
              | (go_at_call 19; (with_reducible refine (cursor_Cursor_Four.calls 40 gc _ _ _ _ _ _ _ w _ HC1.out HB1.out FF.out).mono ?_); rintro e5 w5 ⟨rfl, hi5, hb, hk⟩; have HC5 := Aside0.mk hi5; have HB5 := Aside0.mk hb; have H45 := Aside0.mk (kp HC1.out H41.out (by decide) hk); have H75 := Aside0.mk (kp HC1.out H71.out (by decide) hk); have hcw := blk_cell H75.out 3; have hfw := blk_frozen H75.out 3; have HC6 := Aside0.mk (HC5.out.far (p := ⟨b7, 3, none⟩) (IsS71.ne_blk HC5.out H75.out (by decide)) (.int .u32 v)); have HB6 := Aside0.mk (below_set (g := b7) (j := 3) (v := .int .u32 v) HB5.out hbw.out); have H46 := Aside0.mk (blk_far H45.out (p := ⟨b7, 3, none⟩) (blk_ne_of H45.out H75.out hne47.out) (.int .u32 v)); have H76 := Aside0.mk (blk_set H75.out 3 (.int .u32 v)); clear hi5 hb hk)
              | (go_at_call 22; (with_reducible refine (cursor_Cursor_Err.calls gc _ _ _ _ _ _ _ w _ HC6.out HB6.out HEF.out).mono ?_); rintro e7 w7 ⟨rfl, hi5, hb, hk⟩; have HC7 := Aside0.mk hi5; have HB7 := Aside0.mk hb; have H47 := Aside0.mk (kp HC6.out H46.out (by decide) hk); have H77 := Aside0.mk (kp HC6.out H76.out (by decide) hk); have hy0 := blk_cell H47.out 0; have hy1 := blk_cell H47.out 1; have hy2 := blk_cell H47.out 2; have hy3 := blk_cell H47.out 3; have fy0 := blk_frozen H47.out 0; have fy1 := blk_frozen H47.out 1; have fy2 := blk_frozen H47.out 2; have fy3 := blk_frozen H47.out 3; clear hi5 hb hk)
              | (go_at_call 21; (with_reducible refine (cursor_Cursor_Left.calls gc _ _ _ _ _ _ _ w _ HC7.out HB7.out HLF.out).mono ?_); rintro e8 w8 ⟨rfl, hi5, hb, hk⟩; have HB8 := Aside0.mk hb; have H48 := Aside0.mk (kp HC7.out H47.out (by decide) hk); have H78 := Aside0.mk (kp HC7.out H77.out (by decide) hk); have hz0 := blk_cell H48.out 0; have hz1 := blk_cell H48.out 1; have hz2 := blk_cell H48.out 2; have hz3 := blk_cell H48.out 3; have fz0 := blk_frozen H48.out 0; have fz1 := blk_frozen H48.out 1; have fz2 := blk_frozen H48.out 2; have fz3 := blk_frozen H48.out 3; have hx0 := blk_cell H78.out 0; have hx1 := blk_cell H78.out 1; have hx2 := blk_cell H78.out 2; have hx3 := blk_cell H78.out 3; clear hi5 hb hk))
            refine bodyPost_ret (v := .tuple #[.agg #[.int .u64 x0, .int .u64 x1, .int .u64 x2, .int .u32 v], .int .i64 0]) (by simp [results, Tryd.results10, go_sem, hz0, hz1, hz2, hz3]) rfl ⟨rfl, below_set (below_set (below_set (below_set HB8.out (Nat.le_succ _)) (Nat.le_succ _)) (Nat.le_succ _)) (Nat.le_succ _)⟩
        · have he1 : (e' != 0) = true := by simp [he]
          obtain ⟨⟨rfl, rfl, rfl, rfl⟩, rfl⟩ : (y0 = 0 ∧ y1 = 0 ∧ y2 = 0 ∧ y3 = 0) ∧ y4 = 31 := by simpa using G.end_bad hg he
          clear hg HG he
          go_wp2_with (first
            | (go_at_call 19; (with_reducible refine (cursor_Cursor_Four.calls 40 gc _ _ _ _ _ _ _ w _ HC1.out HB1.out FF.out).mono ?_); rintro e5 w5 ⟨rfl, hi5, hb, hk⟩; have HC5 := Aside0.mk hi5; have HB5 := Aside0.mk hb; have H45 := Aside0.mk (kp HC1.out H41.out (by decide) hk); have H75 := Aside0.mk (kp HC1.out H71.out (by decide) hk); have hcw := blk_cell H75.out 3; have hfw := blk_frozen H75.out 3; have HC6 := Aside0.mk (HC5.out.far (p := ⟨b7, 3, none⟩) (IsS71.ne_blk HC5.out H75.out (by decide)) (.int .u32 v)); have HB6 := Aside0.mk (below_set (g := b7) (j := 3) (v := .int .u32 v) HB5.out hbw.out); have H46 := Aside0.mk (blk_far H45.out (p := ⟨b7, 3, none⟩) (blk_ne_of H45.out H75.out hne47.out) (.int .u32 v)); have H76 := Aside0.mk (blk_set H75.out 3 (.int .u32 v)); clear hi5 hb hk)
            | (go_at_call 22; (with_reducible refine (cursor_Cursor_Err.calls gc _ _ _ _ _ _ _ w _ HC6.out HB6.out HEF.out).mono ?_); rintro e7 w7 ⟨rfl, hi5, hb, hk⟩; have HC7 := Aside0.mk hi5; have HB7 := Aside0.mk hb; have H47 := Aside0.mk (kp HC6.out H46.out (by decide) hk); have H77 := Aside0.mk (kp HC6.out H76.out (by decide) hk); have hy0 := blk_cell H47.out 0; have hy1 := blk_cell H47.out 1; have hy2 := blk_cell H47.out 2; have hy3 := blk_cell H47.out 3; have fy0 := blk_frozen H47.out 0; have fy1 := blk_frozen H47.out 1; have fy2 := blk_frozen H47.out 2; have fy3 := blk_frozen H47.out 3; clear hi5 hb hk))
          refine bodyPost_ret (v := .tuple #[.agg #[.int .u64 0, .int .u64 0, .int .u64 0, .int .u32 0], .int .i64 31]) (by simp [results, Tryd.results10, go_sem, hy0, hy1, hy2, hy3]) rfl ⟨rfl, below_set (below_set (below_set (below_set HB7.out (Nat.le_succ _)) (Nat.le_succ _)) (Nat.le_succ _)) (Nat.le_succ _)⟩
      | false =>
        have hg := HG.out.off (by omega) rfl
        have HC6 := HC1; have HB6 := HB1; have H46 := H41; have H76 := H71
        obtain ⟨a', ha'⟩ : ∃ x, a = x := ⟨_, rfl⟩
        obtain ⟨e', he'⟩ : ∃ x, e = x := ⟨_, rfl⟩
        subst ha'
        subst he'
        have HEF : Aside0 (cursor_Cursor_Err.f s a e = some (e, s, a, e)) := ⟨rfl⟩
        by_cases he : e = 0
        · subst he
          obtain ⟨L, hL, hbad, hok⟩ := G.end_ok hg
          have HLF : Aside0 (cursor_Cursor_Left.f s a 0 = some ((L : Int), s, a, 0)) := ⟨by unfold cursor_Cursor_Left.f; rw [hL]⟩
          clear hL
          by_cases hp : 0 < L
          · have hp1 : decide (0 < L) = true := decide_eq_true hp
            obtain ⟨⟨rfl, rfl, rfl, rfl⟩, rfl⟩ : (y0 = 0 ∧ y1 = 0 ∧ y2 = 0 ∧ y3 = 0) ∧ y4 = 31 := by simpa using hbad hp
            clear hbad hok hg HG
            go_wp2_with (first
              | (go_at_call 22; (with_reducible refine (cursor_Cursor_Err.calls gc _ _ _ _ _ _ _ w _ HC6.out HB6.out HEF.out).mono ?_); rintro e7 w7 ⟨rfl, hi5, hb, hk⟩; have HC7 := Aside0.mk hi5; have HB7 := Aside0.mk hb; have H47 := Aside0.mk (kp HC6.out H46.out (by decide) hk); have H77 := Aside0.mk (kp HC6.out H76.out (by decide) hk); have hy0 := blk_cell H47.out 0; have hy1 := blk_cell H47.out 1; have hy2 := blk_cell H47.out 2; have hy3 := blk_cell H47.out 3; have fy0 := blk_frozen H47.out 0; have fy1 := blk_frozen H47.out 1; have fy2 := blk_frozen H47.out 2; have fy3 := blk_frozen H47.out 3; clear hi5 hb hk)
              | (go_at_call 21; (with_reducible refine (cursor_Cursor_Left.calls gc _ _ _ _ _ _ _ w _ HC7.out HB7.out HLF.out).mono ?_); rintro e8 w8 ⟨rfl, hi5, hb, hk⟩; have HB8 := Aside0.mk hb; have H48 := Aside0.mk (kp HC7.out H47.out (by decide) hk); have H78 := Aside0.mk (kp HC7.out H77.out (by decide) hk); have hz0 := blk_cell H48.out 0; have hz1 := blk_cell H48.out 1; have hz2 := blk_cell H48.out 2; have hz3 := blk_cell H48.out 3; have fz0 := blk_frozen H48.out 0; have fz1 := blk_frozen H48.out 1; have fz2 := blk_frozen H48.out 2; have fz3 := blk_frozen H48.out 3; have hx0 := blk_cell H78.out 0; have hx1 := blk_cell H78.out 1; have hx2 := blk_cell H78.out 2; have hx3 := blk_cell H78.out 3; clear hi5 hb hk))
            refine bodyPost_ret (v := .tuple #[.agg #[.int .u64 0, .int .u64 0, .int .u64 0, .int .u32 0], .int .i64 31]) (by simp [results, Tryd.results10, go_sem, hz0, hz1, hz2, hz3]) rfl ⟨rfl, below_set (below_set (below_set (below_set HB8.out (Nat.le_succ _)) (Nat.le_succ _)) (Nat.le_succ _)) (Nat.le_succ _)⟩
          · have hp1 : decide (0 < L) = false := decide_eq_false hp
            obtain ⟨⟨rfl, rfl, rfl, rfl⟩, rfl⟩ : (x0 = y0 ∧ x1 = y1 ∧ x2 = y2 ∧ 0 = y3) ∧ y4 = 0 := by simpa [eq_comm] using hok (by omega)
            clear hbad hok hg HG
            go_wp2_with (first
              | (go_at_call 22; (with_reducible refine (cursor_Cursor_Err.calls gc _ _ _ _ _ _ _ w _ HC6.out HB6.out HEF.out).mono ?_); rintro e7 w7 ⟨rfl, hi5, hb, hk⟩; have HC7 := Aside0.mk hi5; have HB7 := Aside0.mk hb; have H47 := Aside0.mk (kp HC6.out H46.out (by decide) hk); have H77 := Aside0.mk (kp HC6.out H76.out (by decide) hk); have hy0 := blk_cell H47.out 0; have hy1 := blk_cell H47.out 1; have hy2 := blk_cell H47.out 2; have hy3 := blk_cell H47.out 3; have fy0 := blk_frozen H47.out 0; have fy1 := blk_frozen H47.out 1; have fy2 := blk_frozen H47.out 2; have fy3 := blk_frozen H47.out 3; clear hi5 hb hk)
              | (go_at_call 21; (with_reducible refine (cursor_Cursor_Left.calls gc _ _ _ _ _ _ _ w _ HC7.out HB7.out HLF.out).mono ?_); rintro e8 w8 ⟨rfl, hi5, hb, hk⟩; have HB8 := Aside0.mk hb; have H48 := Aside0.mk (kp HC7.out H47.out (by decide) hk); have H78 := Aside0.mk (kp HC7.out H77.out (by decide) hk); have hz0 := blk_cell H48.out 0; have hz1 := blk_cell H48.out 1; have hz2 := blk_cell H48.out 2; have hz3 := blk_cell H48.out 3; have fz0 := blk_frozen H48.out 0; have fz1 := blk_frozen H48.out 1; have fz2 := blk_frozen H48.out 2; have fz3 := blk_frozen H48.out 3; have hx0 := blk_cell H78.out 0; have hx1 := blk_cell H78.out 1; have hx2 := blk_cell H78.out 2; have hx3 := blk_cell H78.out 3; clear hi5 hb hk))
            refine bodyPost_ret (v := .tuple #[.agg #[.int .u64 x0, .int .u64 x1, .int .u64 x2, .int .u32 0], .int .i64 0]) (by simp [results, Tryd.results10, go_sem, hz0, hz1, hz2, hz3]) rfl ⟨rfl, below_set (below_set (below_set (below_set HB8.out (Nat.le_succ _)) (Nat.le_succ _)) (Nat.le_succ _)) (Nat.le_succ _)⟩
        · have he1 : (e != 0) = true := by simp [he]
          obtain ⟨⟨rfl, rfl, rfl, rfl⟩, rfl⟩ : (y0 = 0 ∧ y1 = 0 ∧ y2 = 0 ∧ y3 = 0) ∧ y4 = 31 := by simpa using G.end_bad hg he
          clear hg HG he
          go_wp2_with (first
            | (go_at_call 22; (with_reducible refine (cursor_Cursor_Err.calls gc _ _ _ _ _ _ _ w _ HC6.out HB6.out HEF.out).mono ?_); rintro e7 w7 ⟨rfl, hi5, hb, hk⟩; have HC7 := Aside0.mk hi5; have HB7 := Aside0.mk hb; have H47 := Aside0.mk (kp HC6.out H46.out (by decide) hk); have H77 := Aside0.mk (kp HC6.out H76.out (by decide) hk); have hy0 := blk_cell H47.out 0; have hy1 := blk_cell H47.out 1; have hy2 := blk_cell H47.out 2; have hy3 := blk_cell H47.out 3; have fy0 := blk_frozen H47.out 0; have fy1 := blk_frozen H47.out 1; have fy2 := blk_frozen H47.out 2; have fy3 := blk_frozen H47.out 3; clear hi5 hb hk))
          refine bodyPost_ret (v := .tuple #[.agg #[.int .u64 0, .int .u64 0, .int .u64 0, .int .u32 0], .int .i64 31]) (by simp [results, Tryd.results10, go_sem, hy0, hy1, hy2, hy3]) rfl ⟨rfl, below_set (below_set (below_set (below_set HB7.out (Nat.le_succ _)) (Nat.le_succ _)) (Nat.le_succ _)) (Nat.le_succ _)⟩
end Go.Proofs.YtloojhhjljneeaaDoor.Wd
