/- Zip64: what both programs parse and print of its numbers is one thing: plain Lean. -/
import Derived.Test.YtloojhhjljneeaaAt4
import Derived.Test.YtloojhhjljneeaaAt8
import Derived.Test.YtloojhhjljneeaaNumO4
import Derived.Test.YtloojhhjljneeaaNumO8
import Derived.Test.YtloojhhjljneeaaNumOR
import Derived.Test.YtloojhhjljneeaaNumNR
import Derived.Test.YtloojhhjljneeaaPx3
import Derived.Test.YtloojhhjljneeaaPx8
namespace Go.Proofs.Ytloojhhjljneeaa.Wd
set_option linter.unusedVariables false
set_option linter.unusedSimpArgs false
open Go Go.RowKit Go.Proofs.Ytloojhhjljneeaa.P Go.Proofs.Ytloojhhjljneeaa.B Go.Proofs.Ytloojhhjljneeaa.Num Go.Proofs.Ytloojhhjljneeaa.Cur Go.Proofs.YtloojhhjljneeaaW.PrintWords Go.Proofs.YtloojhhjljneeaaW.PrintLast Go.Proofs.YtloojhhjljneeaaW.PrintMore

/-- How many bytes number i has. -/
def wid (i : Nat) : Nat := if i = 3 then 4 else 8
theorem wid_le (i : Nat) : wid i = 4 ∨ wid i = 8 := by unfold wid; split <;> simp
abbrev Z : List Int × Int := ([0, 0, 0, 0], 31)
/-- What is parsed from number i on, d of them. -/
def wrest (qs : List Bool) : Nat → Nat → List UInt8 → List Int → List Int × Int
  | 0, _, R, xs => if R = [] then (xs, 0) else Z
  | d + 1, i, R, xs =>
    if qs.getD i false = true then (if R.length < wid i then Z else wrest qs d (i + 1) (R.drop (wid i)) (xs.set i ((leN (R.take (wid i)) : Nat) : Int))) else wrest qs d (i + 1) R xs
theorem wrest_skip {qs : List Bool} {d i : Nat} {R : List UInt8} {xs : List Int} (h : qs.getD i false = false) : wrest qs (d + 1) i R xs = wrest qs d (i + 1) R xs := by
  rw [wrest, h]; rfl
theorem wrest_short {qs : List Bool} {d i : Nat} {R : List UInt8} {xs : List Int} (h : qs.getD i false = true) (hl : R.length < wid i) : wrest qs (d + 1) i R xs = Z := by
  rw [wrest, if_pos h, if_pos hl]
theorem wrest_take {qs : List Bool} {d i : Nat} {R : List UInt8} {xs : List Int} (h : qs.getD i false = true) (hl : ¬ R.length < wid i) : wrest qs (d + 1) i R xs = wrest qs d (i + 1) (R.drop (wid i)) (xs.set i ((leN (R.take (wid i)) : Nat) : Int)) := by
  rw [wrest, if_pos h, if_neg hl]
theorem eight_err {s : ByteArray} {a e : Int} (he : e ≠ 0) (k : Nat) (hk : 8 < k) : cursor_Cursor_Eight.f k s a e = some (0, s, a, e) := by
  unfold cursor_Cursor_Eight.f
  rw [take_bad he, Option.bind_some]
  dsimp only
  rw [number_strN [] (by simp) k hk, Option.bind_some]
  rfl
theorem four_err {s : ByteArray} {a e : Int} (he : e ≠ 0) (k : Nat) (hk : 8 < k) : cursor_Cursor_Four.f k s a e = some (0, s, a, e) := by
  unfold cursor_Cursor_Four.f
  rw [take_bad he, Option.bind_some]
  dsimp only
  rw [number_strN [] (by simp) k hk, Option.bind_some]
  rfl
/-- Where the cursor is, and what will come out. -/
def G (qs : List Bool) (s : ByteArray) (i : Nat) (a e : Int) (xs : List Int) (r : List Int × Int) : Prop :=
  (e = 0 ∧ ∃ R, At s a R ∧ wrest qs (4 - i) i R xs = r) ∨ (e ≠ 0 ∧ r = Z)
section
variable {qs : List Bool} {s : ByteArray} {i : Nat} {a e : Int} {xs : List Int} {r : List Int × Int}
theorem G.start (qs : List Bool) (s : ByteArray) (hs : s.size ≤ 1000000) : G qs s 0 0 0 [0, 0, 0, 0] (wrest qs 4 0 s.data.toList [0, 0, 0, 0]) :=
  .inl ⟨rfl, _, At.start s (by omega), rfl⟩
theorem G.off (h : G qs s i a e xs r) (hi : i < 4) (ha : qs.getD i false = false) : G qs s (i + 1) a e xs r := by
  rcases h with ⟨he, R, hR, hr⟩ | h
  · refine .inl ⟨he, R, hR, ?_⟩
    rw [show 4 - i = 4 - (i + 1) + 1 by omega, wrest_skip ha] at hr
    exact hr
  · exact .inr h
theorem G.eight (h : G qs s i a e xs r) (hi : i < 3) (ha : qs.getD i false = true) : ∃ v a' e', cursor_Cursor_Eight.f 40 s a e = some (v, s, a', e') ∧ G qs s (i + 1) a' e' (xs.set i v) r ∧ 0 ≤ v ∧ v < 18446744073709551616 := by
  have hw : wid i = 8 := by unfold wid; rw [if_neg (by omega)]
  rcases h with ⟨rfl, R, hR, hr⟩ | ⟨he, hr⟩
  · rw [show 4 - i = 4 - (i + 1) + 1 by omega] at hr
    by_cases hl : R.length < 8
    · rw [wrest_short ha (by omega)] at hr
      exact ⟨_, _, _, eight_fail hR hl 40 (by omega), .inr ⟨by decide, hr.symm⟩, by omega, by omega⟩
    · have hm : (R.take 8).length = 8 := by rw [List.length_take]; omega
      have h2 : At s a (R.take 8 ++ R.drop 8) := by rw [List.take_append_drop]; exact hR
      have hlt := leN_lt (R.take 8)
      rw [hm] at hlt
      have hlt2 : leN (R.take 8) < 18446744073709551616 := hlt
      rw [wrest_take ha (by omega), hw] at hr
      exact ⟨_, _, _, eight_at h2 hm 40 (by omega), .inl ⟨rfl, _, h2.on, hr⟩, by omega, by omega⟩
  · exact ⟨_, _, _, eight_err he 40 (by omega), .inr ⟨he, hr⟩, by omega, by omega⟩
theorem G.four (h : G qs s 3 a e xs r) (ha : qs.getD 3 false = true) : ∃ v a' e', cursor_Cursor_Four.f 40 s a e = some (v, s, a', e') ∧ G qs s 4 a' e' (xs.set 3 v) r ∧ 0 ≤ v ∧ v < 4294967296 := by
  have hw : wid 3 = 4 := rfl
  rcases h with ⟨rfl, R, hR, hr⟩ | ⟨he, hr⟩
  · by_cases hl : R.length < 4
    · rw [show 4 - 3 = 0 + 1 from rfl, wrest_short ha (by omega)] at hr
      exact ⟨_, _, _, four_fail hR hl 40 (by omega), .inr ⟨by decide, hr.symm⟩, by omega, by omega⟩
    · have hm : (R.take 4).length = 4 := by rw [List.length_take]; omega
      have h2 : At s a (R.take 4 ++ R.drop 4) := by rw [List.take_append_drop]; exact hR
      have hlt := leN_lt (R.take 4)
      rw [hm] at hlt
      have hlt2 : leN (R.take 4) < 4294967296 := hlt
      rw [show 4 - 3 = 0 + 1 from rfl, wrest_take ha (by omega), hw] at hr
      exact ⟨_, _, _, four_at h2 hm 40 (by omega), .inl ⟨rfl, _, h2.on, hr⟩, by omega, by omega⟩
  · exact ⟨_, _, _, four_err he 40 (by omega), .inr ⟨he, hr⟩, by omega, by omega⟩
theorem G.end_bad (h : G qs s 4 a e xs r) (he : e ≠ 0) : r = Z := by
  rcases h with ⟨h, _⟩ | h
  · exact absurd h he
  · exact h.2
theorem G.end_ok (h : G qs s 4 a 0 xs r) : ∃ L : Nat, wrap64 ((s.size : Int) - a) = L ∧ (0 < L → r = Z) ∧ (L = 0 → r = (xs, 0)) := by
  rcases h with ⟨_, R, hR, hr⟩ | ⟨h, _⟩
  · refine ⟨R.length, left_at hR, fun hl => ?_, fun hl => ?_⟩
    · rw [← hr, show 4 - 4 = 0 from rfl, wrest, if_neg (by intro e; rw [e] at hl; simp at hl)]
    · rw [← hr, show 4 - 4 = 0 from rfl, wrest, if_pos (List.eq_nil_of_length_eq_zero hl)]
  · exact absurd rfl h
end
/-- What is printed of number i. -/
def wpiece (qs : List Bool) (xs : List Int) (i : Nat) : List UInt8 := if qs.getD i false = true then ofN (wid i) (xs.getD i 0).toNat else []
def wprs (qs : List Bool) (xs : List Int) : Nat → List UInt8
  | 0 => []
  | i + 1 => wprs qs xs i ++ wpiece qs xs i
theorem wpiece_le (qs : List Bool) (xs : List Int) (i : Nat) : (wpiece qs xs i).length ≤ 8 := by
  unfold wpiece; split
  · rw [ofN_length]; have := wid_le i; omega
  · simp
theorem wprs_len (qs : List Bool) (xs : List Int) : ∀ i, (wprs qs xs i).length ≤ 8 * i
  | 0 => by simp [wprs]
  | i + 1 => by have := wprs_len qs xs i; have := wpiece_le qs xs i; rw [wprs, List.length_append]; omega
theorem wpr_eq (a0 a1 a2 a3 : Bool) (x0 x1 x2 x3 : Int) (h0 : 0 ≤ x0 ∧ x0 < 18446744073709551616) (h1 : 0 ≤ x1 ∧ x1 < 18446744073709551616) (h2 : 0 ≤ x2 ∧ x2 < 18446744073709551616) (h3 : 0 ≤ x3 ∧ x3 < 4294967296) :
    field_PrintWide.f 100 x0 x1 x2 x3 a0 a1 a2 a3 = some (strN (wprs [a0, a1, a2, a3] [x0, x1, x2, x3] 4)) := by
  have e8 : ∀ (x : Int) (k : Nat), 0 ≤ x → x < 18446744073709551616 → 64 < k → cursor_Eight.f k x = some (strN (ofN 8 x.toNat)) := fun x k hx hx2 hk => by
    have h := eight_eq x.toNat (by omega) k hk
    rwa [show ((x.toNat : Nat) : Int) = x by omega] at h
  have e4 : ∀ (x : Int) (k : Nat), 0 ≤ x → x < 4294967296 → 64 < k → cursor_Four.f k x = some (strN (ofN 4 x.toNat)) := fun x k hx hx2 hk => by
    have h := four_eq x.toNat (by omega) k hk
    rwa [show ((x.toNat : Nat) : Int) = x by omega] at h
  have hnil : (⟨#[]⟩ : ByteArray) = strN [] := rfl
  unfold field_PrintWide.f
  have j1 : ∀ P : List UInt8, P.length ≤ 16 → field_PrintWide.j1 99 (strN P) x0 x1 x2 x3 a0 a1 a2 a3 = some (strN (P ++ wpiece [a0, a1, a2, a3] [x0, x1, x2, x3] 2 ++ wpiece [a0, a1, a2, a3] [x0, x1, x2, x3] 3)) := by
    intro P hP
    rw [show (99 : Nat) = 98 + 1 from rfl, field_PrintWide.j1]
    cases a2 with
    | true =>
      rw [if_pos rfl, e8 x2 98 h2.1 h2.2 (by omega), Option.bind_some, strN_size, strN_size, ofN_length, if_pos (by omega)]
      cases a3 with
      | true => rw [if_pos rfl, e4 x3 98 h3.1 h3.2 (by omega), Option.bind_some, strN_size, ofN_length, if_pos (by omega), strN_append, strN_append]; rfl
      | false => rw [if_neg (by decide), strN_append]; simp [wpiece, wid]
    | false =>
      rw [if_neg (by decide)]
      cases a3 with
      | true => rw [if_pos rfl, e4 x3 98 h3.1 h3.2 (by omega), Option.bind_some, strN_size, strN_size, ofN_length, if_pos (by omega), strN_append]; simp [wpiece, wid]
      | false => rw [if_neg (by decide)]; simp [wpiece, wid]
  have j0 : ∀ P : List UInt8, P.length ≤ 8 → field_PrintWide.j0 100 (strN P) x0 x1 x2 x3 a0 a1 a2 a3 = some (strN (P ++ wpiece [a0, a1, a2, a3] [x0, x1, x2, x3] 1 ++ wpiece [a0, a1, a2, a3] [x0, x1, x2, x3] 2 ++ wpiece [a0, a1, a2, a3] [x0, x1, x2, x3] 3)) := by
    intro P hP
    rw [show (100 : Nat) = 99 + 1 from rfl, field_PrintWide.j0]
    cases a1 with
    | true =>
      rw [if_pos rfl, e8 x1 99 h1.1 h1.2 (by omega), Option.bind_some, strN_size, strN_size, ofN_length, if_pos (by omega), strN_append, j1 _ (by rw [List.length_append, ofN_length]; omega)]
      rfl
    | false =>
      rw [if_neg (by decide), j1 _ (by omega)]
      simp [wpiece, wid]
  cases a0 with
  | true =>
    rw [if_pos rfl, e8 x0 100 h0.1 h0.2 (by omega), Option.bind_some, strN_size, ofN_length, if_pos (by omega), hnil, strN_append, j0 _ (by simp [ofN_length])]
    rfl
  | false =>
    rw [if_neg (by decide), hnil, j0 _ (by simp)]
    rfl
theorem ref_of_wid (n : Int) (i : Nat) (h0 : 0 ≤ n) (h1 : n < 18446744073709551616) : portmanteauref01_Of.f 100 n ((wid i : Nat) : Int) = some (strN (ofN (wid i) n.toNat)) := by
  have h := ref_of_eq n.toNat (by omega) ((wid i : Nat) : Int) 100 (by omega)
  rw [show ((n.toNat : Nat) : Int) = n by omega] at h
  rw [h]
  unfold ofI
  have := wid_le i
  rw [Int.toNat_natCast, Nat.min_eq_left (by omega)]
end Go.Proofs.Ytloojhhjljneeaa.Wd
