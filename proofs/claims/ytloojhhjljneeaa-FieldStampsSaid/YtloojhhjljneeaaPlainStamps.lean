/- Stamps: what both programs parse and print is one thing: plain Lean. -/
import Derived.Test.YtloojhhjljneeaaAt1
import Derived.Test.YtloojhhjljneeaaAt4
import Derived.Test.YtloojhhjljneeaaNumO4
import Derived.Test.YtloojhhjljneeaaNumOR
import Derived.Test.YtloojhhjljneeaaNumNR
import Derived.Test.YtloojhhjljneeaaPx2
import Derived.Test.YtloojhhjljneeaaPx3
import Derived.Test.YtloojhhjljneeaaPx4
import Derived.Test.YtloojhhjljneeaaPx5
import Derived.Test.YtloojhhjljneeaaPx6
namespace Go.Proofs.Ytloojhhjljneeaa.St
set_option linter.unusedVariables false
set_option linter.unusedSimpArgs false
open Go Go.RowKit Go.Proofs.Ytloojhhjljneeaa.P Go.Proofs.Ytloojhhjljneeaa.B Go.Proofs.Ytloojhhjljneeaa.Num Go.Proofs.Ytloojhhjljneeaa.Cur Go.Proofs.YtloojhhjljneeaaW.PrintWords Go.Proofs.YtloojhhjljneeaaW.PrintLast Go.Proofs.YtloojhhjljneeaaW.PrintMore

/-- Four bytes as a signed number. -/
def i32 (n : Nat) : Int := if n < 2147483648 then (n : Int) else (n : Int) - 4294967296
theorem wrap32_nat (n : Nat) (h : n < 4294967296) : wrap32 (n : Int) = i32 n := by
  unfold i32 wrap32; split <;> omega
/-- Is time number i told? -/
def told (f i : Nat) (c : Bool) : Bool := decide (f / 2 ^ i % 2 = 1) && (decide (i = 0) || !c)
/-- What is parsed, from time number i on, d of them. -/
def rest (f : Nat) (c : Bool) : Nat → Nat → List UInt8 → Int → Int → Int → Int × Int × Int × Int × Int
  | 0, _, R, x0, x1, x2 => if R ≠ [] ∧ c = false then (0, 0, 0, 0, 24) else ((f : Int), x0, x1, x2, 0)
  | d + 1, i, R, x0, x1, x2 =>
    if told f i c = true then
      (if R.length < 4 then (0, 0, 0, 0, 24) else rest f c d (i + 1) (R.drop 4) (if i = 0 then i32 (leN (R.take 4)) else x0) (if i = 1 then i32 (leN (R.take 4)) else x1) (if i = 2 then i32 (leN (R.take 4)) else x2))
    else rest f c d (i + 1) R x0 x1 x2
theorem rest_skip {f d i : Nat} {c : Bool} {R : List UInt8} {x0 x1 x2 : Int} (h : told f i c = false) : rest f c (d + 1) i R x0 x1 x2 = rest f c d (i + 1) R x0 x1 x2 := by
  rw [rest, h]; rfl
theorem rest_short {f d i : Nat} {c : Bool} {R : List UInt8} {x0 x1 x2 : Int} (h : told f i c = true) (hl : R.length < 4) : rest f c (d + 1) i R x0 x1 x2 = (0, 0, 0, 0, 24) := by
  rw [rest, if_pos h, if_pos hl]
theorem rest_take {f d i : Nat} {c : Bool} {R : List UInt8} {x0 x1 x2 : Int} (h : told f i c = true) (hl : ¬ R.length < 4) :
    rest f c (d + 1) i R x0 x1 x2 = rest f c d (i + 1) (R.drop 4) (if i = 0 then i32 (leN (R.take 4)) else x0) (if i = 1 then i32 (leN (R.take 4)) else x1) (if i = 2 then i32 (leN (R.take 4)) else x2) := by
  rw [rest, if_pos h, if_neg hl]
theorem and_bit (f j : Nat) (hf : f < 256) (hj : j = 1 ∨ j = 2 ∨ j = 4) : Go.bits .and .u8 (f : Int) (j : Int) = ((f &&& j : Nat) : Int) :=
  (bits_nat .u8 8 (by decide) (fun n h0 h1 => by simp [IntKind.wrap, IntKind.bits, IntKind.signed]; omega) f j (by omega) (by omega)).1
theorem land1 : ∀ f : Nat, f < 256 → (f &&& 1 = 0 ↔ ¬ f / 2 ^ 0 % 2 = 1) := by decide +kernel
theorem land2 : ∀ f : Nat, f < 256 → (f &&& 2 = 0 ↔ ¬ f / 2 ^ 1 % 2 = 1) := by decide +kernel
theorem land4 : ∀ f : Nat, f < 256 → (f &&& 4 = 0 ↔ ¬ f / 2 ^ 2 % 2 = 1) := by decide +kernel
theorem land7 : ∀ f : Nat, f < 256 → f &&& 7 = f % 8 := by decide +kernel
theorem and7u (f : Nat) (hf : f < 256) : Go.bits .and .u8 (f : Int) 7 = ((f % 8 : Nat) : Int) := by
  have h := (bits_nat .u8 8 (by decide) (fun n h0 h1 => by simp [IntKind.wrap, IntKind.bits, IntKind.signed]; omega) f 7 (by omega) (by omega)).1
  rw [land7 f hf] at h
  exact h
theorem four_err {s : ByteArray} {a e : Int} (he : e ≠ 0) (k : Nat) (hk : 8 < k) : cursor_Cursor_Four.f k s a e = some (0, s, a, e) := by
  unfold cursor_Cursor_Four.f
  rw [take_bad he, Option.bind_some]
  dsimp only
  rw [number_strN [] (by simp) k hk, Option.bind_some]
  rfl
abbrev Z : Int × Int × Int × Int × Int := (0, 0, 0, 0, 24)
section
variable {s : ByteArray} {a e : Int} {R : List UInt8} {f : Nat} {c : Bool} {x0 x1 x2 : Int}
theorem j4_err (he : e ≠ 0) (y : Int) (k : Nat) (hk : 0 < k) : field_ParseStamp.j4 k c s a e y x0 x1 x2 = some Z := by
  obtain ⟨k, rfl⟩ : ∃ m, k = m + 1 := ⟨k - 1, by omega⟩
  rw [field_ParseStamp.j4]
  unfold cursor_Cursor_Err.f
  rw [Option.bind_some]
  dsimp only
  rw [if_neg he]
theorem j3_err (he : e ≠ 0) (y : Int) (b : Bool) (k : Nat) (hk : 9 < k) : field_ParseStamp.j3 k c b s a e y x0 x1 x2 = some Z := by
  obtain ⟨k, rfl⟩ : ∃ m, k = m + 1 := ⟨k - 1, by omega⟩
  rw [field_ParseStamp.j3]
  split
  · rw [four_err he k (by omega), Option.bind_some]; dsimp only; exact j4_err he y k (by omega)
  · exact j4_err he y k (by omega)
theorem j2_err (he : e ≠ 0) (y : Int) (k : Nat) (hk : 10 < k) : field_ParseStamp.j2 k c s a e y x0 x1 x2 = some Z := by
  obtain ⟨k, rfl⟩ : ∃ m, k = m + 1 := ⟨k - 1, by omega⟩
  rw [field_ParseStamp.j2]
  split <;> exact j3_err he y _ k (by omega)
theorem j1_err (he : e ≠ 0) (y : Int) (b : Bool) (k : Nat) (hk : 11 < k) : field_ParseStamp.j1 k c b s a e y x0 x1 x2 = some Z := by
  obtain ⟨k, rfl⟩ : ∃ m, k = m + 1 := ⟨k - 1, by omega⟩
  rw [field_ParseStamp.j1]
  split
  · rw [four_err he k (by omega), Option.bind_some]; dsimp only; exact j2_err he y k (by omega)
  · exact j2_err he y k (by omega)
theorem j0_err (he : e ≠ 0) (y : Int) (k : Nat) (hk : 12 < k) : field_ParseStamp.j0 k c s a e y x0 x1 x2 = some Z := by
  obtain ⟨k, rfl⟩ : ∃ m, k = m + 1 := ⟨k - 1, by omega⟩
  rw [field_ParseStamp.j0]
  split <;> exact j1_err he y _ k (by omega)
theorem j4_ok (h : At s a R) (k : Nat) (hk : 0 < k) : field_ParseStamp.j4 k c s a 0 f x0 x1 x2 = some (if 7 < f then Z else rest f c 0 3 R x0 x1 x2) := by
  obtain ⟨k, rfl⟩ : ∃ m, k = m + 1 := ⟨k - 1, by omega⟩
  rw [field_ParseStamp.j4]
  unfold cursor_Cursor_Err.f cursor_Cursor_Left.f
  rw [Option.bind_some]
  dsimp only
  rw [if_pos rfl]
  by_cases h7 : 7 < f
  · rw [if_pos (by omega), if_pos h7]
  rw [if_neg (by omega), if_neg h7, Option.bind_some]
  dsimp only
  rw [left_at h, rest]
  by_cases hR : R = []
  · subst hR; simp
  · have : R.length ≠ 0 := by simpa using hR
    rw [if_pos (by omega)]
    cases c <;> simp [hR]
/-- Four bytes more, or none. -/
theorem four_step (h : At s a R) (k : Nat) (hk : 8 < k) : (R.length < 4 ∧ cursor_Cursor_Four.f k s a 0 = some (0, s, a, 3)) ∨ (¬ R.length < 4 ∧ ∃ a', cursor_Cursor_Four.f k s a 0 = some (((leN (R.take 4) : Nat) : Int), s, a', 0) ∧ At s a' (R.drop 4)) := by
  by_cases hl : R.length < 4
  · exact .inl ⟨hl, four_fail h hl k hk⟩
  · have hm : (R.take 4).length = 4 := by rw [List.length_take]; omega
    have h2 : At s a (R.take 4 ++ R.drop 4) := by rw [List.take_append_drop]; exact h
    refine .inr ⟨hl, _, four_at h2 hm k hk, h2.on⟩
theorem le4 (hl : ¬ R.length < 4) : leN (R.take 4) < 4294967296 := by
  have h := leN_lt (R.take 4)
  rw [List.length_take, Nat.min_eq_left (by omega)] at h
  exact h
theorem j2_ok (h : At s a R) (hf : f < 256) (k : Nat) (hk : 10 < k) : field_ParseStamp.j2 k c s a 0 f x0 x1 x2 = some (if 7 < f then Z else rest f c 1 2 R x0 x1 x2) := by
  obtain ⟨k, rfl⟩ : ∃ m, k = m + 1 := ⟨k - 1, by omega⟩
  obtain ⟨k, rfl⟩ : ∃ m, k = m + 1 := ⟨k - 1, by omega⟩
  have hb := and_bit f 4 hf (by omega)
  have hl := land4 f hf
  rw [field_ParseStamp.j2, show (4 : Int) = ((4 : Nat) : Int) from rfl, hb]
  by_cases h4 : f &&& 4 = 0
  · have ht : told f 2 c = false := by unfold told; rw [decide_eq_false (hl.1 h4)]; rfl
    rw [h4, if_pos (by rfl), field_ParseStamp.j3, if_neg (by decide), j4_ok h k (by omega), rest_skip ht]
  · have h1 : f / 2 ^ 2 % 2 = 1 := by false_or_by_contra; exact h4 (hl.2 ‹_›)
    rw [if_neg (by omega), field_ParseStamp.j3]
    cases c with
    | true =>
      have ht : told f 2 true = false := by unfold told; simp
      rw [if_neg (by decide), j4_ok h k (by omega), rest_skip ht]
    | false =>
      have ht : told f 2 false = true := by unfold told; rw [decide_eq_true h1]; rfl
      rw [if_pos (by decide)]
      rcases four_step h k (by omega) with ⟨hl, e⟩ | ⟨hl, a', e, h'⟩
      · rw [e, Option.bind_some]; dsimp only
        rw [j4_err (by decide) _ k (by omega), rest_short ht hl]
        split <;> rfl
      · rw [e, Option.bind_some]; dsimp only
        rw [wrap32_nat _ (le4 hl), j4_ok h' k (by omega), rest_take ht hl]
        rfl
theorem j0_ok (h : At s a R) (hf : f < 256) (k : Nat) (hk : 12 < k) : field_ParseStamp.j0 k c s a 0 f x0 x1 x2 = some (if 7 < f then Z else rest f c 2 1 R x0 x1 x2) := by
  obtain ⟨k, rfl⟩ : ∃ m, k = m + 1 := ⟨k - 1, by omega⟩
  obtain ⟨k, rfl⟩ : ∃ m, k = m + 1 := ⟨k - 1, by omega⟩
  have hb := and_bit f 2 hf (by omega)
  have hl := land2 f hf
  rw [field_ParseStamp.j0, show (2 : Int) = ((2 : Nat) : Int) from rfl, hb]
  by_cases h4 : f &&& 2 = 0
  · have ht : told f 1 c = false := by unfold told; rw [decide_eq_false (hl.1 h4)]; rfl
    rw [h4, if_pos (by rfl), field_ParseStamp.j1, if_neg (by decide), j2_ok h hf k (by omega), rest_skip ht]
  · have h1 : f / 2 ^ 1 % 2 = 1 := by false_or_by_contra; exact h4 (hl.2 ‹_›)
    rw [if_neg (by omega), field_ParseStamp.j1]
    cases c with
    | true =>
      have ht : told f 1 true = false := by unfold told; simp
      rw [if_neg (by decide), j2_ok h hf k (by omega), rest_skip ht]
    | false =>
      have ht : told f 1 false = true := by unfold told; rw [decide_eq_true h1]; rfl
      rw [if_pos (by decide)]
      rcases four_step h k (by omega) with ⟨hl, e⟩ | ⟨hl, a', e, h'⟩
      · rw [e, Option.bind_some]; dsimp only
        rw [j2_err (by decide) _ k (by omega), rest_short ht hl]
        split <;> rfl
      · rw [e, Option.bind_some]; dsimp only
        rw [wrap32_nat _ (le4 hl), j2_ok h' hf k (by omega), rest_take ht hl]
        rfl
/-- What either program parses. -/
def parsed (L : List UInt8) (c : Bool) : Int × Int × Int × Int × Int :=
  match L with
  | [] => Z
  | b :: R => if 7 < b.toNat then Z else rest b.toNat c 3 0 R 0 0 0
theorem parse_eq (s : ByteArray) (c : Bool) (hs : s.size ≤ 1000000) : field_ParseStamp.f 40 s c = some (parsed s.data.toList c) := by
  have hA := At.start s (by omega)
  unfold field_ParseStamp.f cursor_Over.f
  rw [Option.bind_some]
  dsimp only
  rcases hL : s.data.toList with _ | ⟨b, R⟩
  · rw [hL] at hA
    rw [one_fail hA (by simp) 40 (by omega), Option.bind_some]
    dsimp only
    rw [show (0 : Int) = ((0 : Nat) : Int) from rfl, show (1 : Int) = ((1 : Nat) : Int) from rfl, and_bit 0 1 (by omega) (by omega), if_pos (by rfl), j0_err (by decide) _ 40 (by omega)]
    rfl
  · rw [hL] at hA
    have h1 : At s 0 ([b] ++ R) := hA
    have hb := b.toNat_lt
    have hn := h1.on
    rw [one_at h1 rfl 40 (by omega), Option.bind_some, leN_one]
    dsimp only
    have hba := and_bit b.toNat 1 (by omega) (by omega)
    have hl := land1 b.toNat (by omega)
    rw [show (1 : Int) = ((1 : Nat) : Int) from rfl, hba]
    unfold parsed
    by_cases h4 : b.toNat &&& 1 = 0
    · have ht : told b.toNat 0 c = false := by unfold told; rw [decide_eq_false (hl.1 h4)]; rfl
      rw [h4, if_pos (by rfl), j0_ok hn (by omega) 40 (by omega)]
      simp only [rest_skip ht]
    · have h1 : b.toNat / 2 ^ 0 % 2 = 1 := by false_or_by_contra; exact h4 (hl.2 ‹_›)
      have ht : told b.toNat 0 c = true := by unfold told; rw [decide_eq_true h1]; rfl
      rw [if_neg (by omega)]
      rcases four_step hn 40 (by omega) with ⟨hl, e⟩ | ⟨hl, a', e, h'⟩
      · rw [e, Option.bind_some]; dsimp only
        rw [j0_err (by decide) _ 40 (by omega)]
        simp only [rest_short ht hl]
        split <;> rfl
      · rw [e, Option.bind_some]; dsimp only
        rw [wrap32_nat _ (le4 hl), j0_ok h' (by omega) 40 (by omega)]
        simp only [rest_take ht hl]
        rfl
end
theorem signed_eq (s : ByteArray) (hs : s.size = 4) : portmanteauref14_signed.f 40 s = some (i32 (leN s.data.toList)) := by
  have hl := leN_lt s.data.toList
  rw [toList_length, hs] at hl
  have hl2 : leN s.data.toList < 4294967296 := hl
  unfold portmanteauref14_signed.f
  rw [ref_number_eq s (by omega) 40 (by omega), Option.bind_some]
  generalize leN s.data.toList = n at hl2
  rw [wrap_id (by omega) (by omega)]
  unfold i32
  by_cases h : n < 2147483648
  · rw [if_neg (by omega), if_pos h]
    congr 1; unfold wrap32; omega
  · rw [if_pos (by omega), if_neg h, wrap_id (by omega) (by omega)]
    congr 1; unfold wrap32; omega

/-- What is printed of time number i. -/
def piece (f : Nat) (c : Bool) (x : Int) (i : Nat) : List UInt8 := if told f i c = true then ofN 4 (x % 4294967296).toNat else []
def prints (f : Nat) (c : Bool) (x0 x1 x2 : Int) : List UInt8 := [UInt8.ofNat f] ++ piece f c x0 0 ++ piece f c x1 1 ++ piece f c x2 2
theorem four_of (x : Int) (k : Nat) (hk : 64 < k) : cursor_Four.f k (x % 4294967296) = some (strN (ofN 4 (x % 4294967296).toNat)) := by
  have h := four_eq (x % 4294967296).toNat (by omega) k hk
  rwa [show (((x % 4294967296).toNat : Nat) : Int) = x % 4294967296 by omega] at h
theorem piece_le (f : Nat) (c : Bool) (x : Int) (i : Nat) : (piece f c x i).length ≤ 4 := by
  unfold piece; split
  · rw [ofN_length]; omega
  · simp
theorem print_eq (y : Nat) (hy : y < 256) (x0 x1 x2 : Int) (c : Bool) : field_PrintStamp.f 100 y x0 x1 x2 c = some (strN (prints (y % 8) c x0 x1 x2)) := by
  have h7 := and7u y hy
  obtain ⟨f, hf⟩ : ∃ f, y % 8 = f := ⟨_, rfl⟩
  rw [hf] at h7 ⊢
  have hf8 : f < 256 := by omega
  have b1 := and_bit f 1 hf8 (by omega)
  have b2 := and_bit f 2 hf8 (by omega)
  have b4 := and_bit f 4 hf8 (by omega)
  have l1 := land1 f hf8
  have l2 := land2 f hf8
  have l4 := land4 f hf8
  have hstr : strOfNums [(f : Int)] = strN [UInt8.ofNat f] := strN_eq _ _ (by simp [Nat.mod_eq_of_lt hf8])
  have j0_eq : ∀ P : List UInt8, P.length ≤ 5 → field_PrintStamp.j0 100 c f (strN P) y x0 x1 x2 = some (strN (P ++ piece f c x1 1 ++ piece f c x2 2)) := by
    intro P hP
    rw [show (100 : Nat) = 99 + 1 from rfl, field_PrintStamp.j0, show (2 : Int) = ((2 : Nat) : Int) from rfl, b2]
    have j1_eq : ∀ b : Bool, b = told f 1 c → field_PrintStamp.j1 99 c f (strN P) b y x0 x1 x2 = some (strN (P ++ piece f c x1 1 ++ piece f c x2 2)) := by
      intro b hb
      have hp1 := piece_le f c x1 1
      have hp2 := piece_le f c x2 2
      rw [show (99 : Nat) = 98 + 1 from rfl, field_PrintStamp.j1, show (4 : Int) = ((4 : Nat) : Int) from rfl, b4]
      have tail : ∀ Q : List UInt8, Q.length ≤ 9 → (if ((f &&& 4 : Nat) : Int) = 0 then some (strN Q) else if c = true then some (strN Q) else (cursor_Four.f 98 (x2 % 4294967296)).bind fun t => if (strN Q).size + t.size ≤ 9223372036854775807 then some (strN Q ++ t) else none) = some (strN (Q ++ piece f c x2 2)) := by
        intro Q hQ
        by_cases h4 : f &&& 4 = 0
        · have ht : told f 2 c = false := by unfold told; rw [decide_eq_false (l4.1 h4)]; rfl
          rw [if_pos (by omega)]; unfold piece; rw [ht]; simp
        · have h1 : f / 2 ^ 2 % 2 = 1 := by false_or_by_contra; exact h4 (l4.2 ‹_›)
          rw [if_neg (by omega)]
          cases c with
          | true =>
            have ht : told f 2 true = false := by unfold told; simp
            rw [if_pos rfl]; unfold piece; rw [ht]; simp
          | false =>
            have ht : told f 2 false = true := by unfold told; rw [decide_eq_true h1]; rfl
            rw [if_neg (by decide), four_of x2 98 (by omega), Option.bind_some, strN_size, strN_size, ofN_length, if_pos (by omega), strN_append]
            unfold piece; rw [ht]; rfl
      cases hbv : b with
      | true =>
        have e1 : piece f c x1 1 = ofN 4 (x1 % 4294967296).toNat := by unfold piece; rw [← hb, hbv]; rfl
        rw [if_pos rfl, four_of x1 98 (by omega), Option.bind_some, if_pos (by rw [strN_size, strN_size, ofN_length]; omega), e1]
        have h := tail (P ++ ofN 4 (x1 % 4294967296).toNat) (by rw [List.length_append, ofN_length]; omega)
        rw [← strN_append] at h
        rw [← h]
        simp only [ByteArray.size_append]
      | false =>
        have e1 : piece f c x1 1 = [] := by unfold piece; rw [← hb, hbv]; rfl
        rw [if_neg (by decide), e1, List.append_nil]
        exact tail P (by omega)
    by_cases h4 : f &&& 2 = 0
    · rw [if_pos (by omega)]
      exact j1_eq false (by unfold told; rw [decide_eq_false (l2.1 h4)]; rfl)
    · have h1 : f / 2 ^ 1 % 2 = 1 := by false_or_by_contra; exact h4 (l2.2 ‹_›)
      rw [if_neg (by omega)]
      exact j1_eq (!c) (by unfold told; rw [decide_eq_true h1]; cases c <;> rfl)
  unfold field_PrintStamp.f
  rw [Option.bind_some, h7, show (1 : Int) = ((1 : Nat) : Int) from rfl, b1, hstr]
  unfold prints
  by_cases h4 : f &&& 1 = 0
  · have e1 : piece f c x0 0 = [] := by unfold piece told; rw [decide_eq_false (l1.1 h4)]; rfl
    rw [if_pos (by omega), e1, List.append_nil]
    exact j0_eq _ (by simp)
  · have h1 : f / 2 ^ 0 % 2 = 1 := by false_or_by_contra; exact h4 (l1.2 ‹_›)
    have e1 : piece f c x0 0 = ofN 4 (x0 % 4294967296).toNat := by unfold piece told; rw [decide_eq_true h1]; rfl
    rw [if_neg (by omega), four_of x0 100 (by omega), Option.bind_some, if_pos (by rw [strN_size, strN_size, ofN_length]; simp), e1, strN_append]
    exact j0_eq _ (by simp [ofN_length])
theorem ref_of4 (n : Nat) (hn : n < 4294967296) : portmanteauref01_Of.f 100 (n : Int) 4 = some (strN (ofN 4 n)) := by
  rw [ref_of_eq n (by omega) 4 100 (by omega)]; rfl
end Go.Proofs.Ytloojhhjljneeaa.St
