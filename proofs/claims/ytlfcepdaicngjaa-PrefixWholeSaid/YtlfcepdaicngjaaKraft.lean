/- Lengths of words: how far they fill, the first word of each length, the words; no word begins another one. Plain Lean, no program. -/
import Derived.Test.YtlfcepdaicngjaaProg
namespace Go.Proofs.Ytlfcepdaicngjaa.Pk
set_option linter.unusedVariables false
set_option linter.unusedSimpArgs false
/-- What a length fills of 2^15. -/
def unit (x : Nat) : Nat := if x = 0 then 0 else 2 ^ (15 - x)
def fillN (l : List Nat) : Nat := (l.map unit).sum
/-- How many have a length (none of 0). -/
def cn (l : List Nat) (n : Nat) : Nat := if n = 0 then 0 else l.count n
def firstN (l : List Nat) : Nat → Nat
  | 0 => 0
  | n + 1 => 2 * (firstN l n + cn l n)
/-- What lengths up to m fill. -/
def upTo (l : List Nat) : Nat → Nat
  | 0 => 0
  | m + 1 => upTo l m + cn l (m + 1) * 2 ^ (15 - (m + 1))
theorem upTo_cons (x : Nat) (l : List Nat) : ∀ m, upTo (x :: l) m = upTo l m + (if 0 < x ∧ x ≤ m then 2 ^ (15 - x) else 0)
  | 0 => by simp [upTo]; omega
  | m + 1 => by
    rw [upTo, upTo, upTo_cons x l m]
    have hc : cn (x :: l) (m + 1) = cn l (m + 1) + (if x = m + 1 then 1 else 0) := by
      unfold cn
      rw [if_neg (by omega), if_neg (by omega), List.count_cons]
      by_cases h : x = m + 1
      · simp [h]
      · simp [h]
    rw [hc]
    by_cases h : x = m + 1
    · subst h
      rw [if_neg (by omega), if_pos rfl, if_pos (by omega), Nat.add_mul, Nat.one_mul]; omega
    · rw [if_neg h, Nat.add_zero]
      by_cases h2 : 0 < x ∧ x ≤ m
      · rw [if_pos h2, if_pos (by omega)]; omega
      · rw [if_neg h2, if_neg (by omega)]; rfl
theorem upTo_le (m : Nat) : ∀ (l : List Nat), upTo l m ≤ fillN l
  | [] => by
    have : ∀ m, upTo [] m = 0 := by intro m; induction m with | zero => rfl | succ m ih => simp [upTo, ih, cn]
    rw [this]; exact Nat.zero_le _
  | x :: l => by
    have ih := upTo_le m l
    rw [upTo_cons]
    unfold fillN at ih ⊢
    rw [List.map_cons, List.sum_cons]
    unfold unit at ih ⊢
    by_cases h : 0 < x ∧ x ≤ m
    · rw [if_pos h, if_neg (by omega)]; omega
    · rw [if_neg h]; omega
theorem first_upTo (l : List Nat) : ∀ m, m ≤ 14 → firstN l (m + 1) * 2 ^ (14 - m) = upTo l m
  | 0, _ => by simp [firstN, upTo, cn]
  | m + 1, h => by
    have ih := first_upTo l m (by omega)
    rw [firstN, upTo, ← ih, Nat.mul_comm 2, Nat.mul_assoc, show 2 * 2 ^ (14 - (m + 1)) = 2 ^ (14 - m) by rw [show 14 - m = 14 - (m + 1) + 1 by omega, Nat.pow_succ, Nat.mul_comm], Nat.add_mul, show 15 - (m + 1) = 14 - m by omega]
/-- The words of each length fit. -/
theorem first_fit (l : List Nat) (hf : fillN l ≤ 32768) (m : Nat) (hm : m ≤ 15) : firstN l m + cn l m ≤ 2 ^ m := by
  cases m with
  | zero => simp [firstN, cn]
  | succ m =>
    have h1 := first_upTo l m (by omega)
    have h2 := upTo_le (m + 1) l
    rw [upTo, show 15 - (m + 1) = 14 - m by omega] at h2
    rw [← h1, ← Nat.add_mul] at h2
    have h3 : 2 ^ (m + 1) * 2 ^ (14 - m) = 32768 := by rw [← Nat.pow_add, show m + 1 + (14 - m) = 15 by omega]
    have h4 : (firstN l (m + 1) + cn l (m + 1)) * 2 ^ (14 - m) ≤ 2 ^ (m + 1) * 2 ^ (14 - m) := by omega
    exact Nat.le_of_mul_le_mul_right h4 (Nat.pow_pos (by omega))
theorem first_step (l : List Nat) (m n : Nat) (h : m ≤ n) : firstN l m * 2 ^ (n - m) ≤ firstN l n := by
  induction n with
  | zero => obtain rfl : m = 0 := by omega
            simp
  | succ n ih =>
    by_cases he : m = n + 1
    · subst he; simp
    · have := ih (by omega)
      rw [show n + 1 - m = n - m + 1 by omega, Nat.pow_succ, ← Nat.mul_assoc, firstN]
      omega
theorem first_over (l : List Nat) (m n : Nat) (h : m < n) : (firstN l m + cn l m) * 2 ^ (n - m) ≤ firstN l n := by
  have := first_step l (m + 1) n (by omega)
  rw [firstN] at this
  rw [show n - m = n - (m + 1) + 1 by omega, Nat.pow_succ, Nat.mul_comm (2 ^ _) 2, ← Nat.mul_assoc, Nat.mul_comm _ 2]
  exact this
/-- The word of a place (of a length that isn't 0). -/
def wordN (l : List Nat) (i : Nat) : Nat := firstN l (l.getD i 0) + (l.take i).count (l.getD i 0)
theorem count_take_lt (l : List Nat) (i : Nat) (hi : i < l.length) : (l.take i).count l[i] < l.count l[i] := by
  have h : l.count l[i] = (l.take i).count l[i] + (l.drop i).count l[i] := by rw [← List.count_append, List.take_append_drop]
  rw [h, List.drop_eq_getElem_cons hi, List.count_cons_self]
  omega
theorem word_lt (l : List Nat) (i : Nat) (hi : i < l.length) (hp : 0 < l[i]) : firstN l l[i] ≤ wordN l i ∧ wordN l i < firstN l l[i] + cn l l[i] := by
  have hg : l.getD i 0 = l[i] := by rw [List.getD_eq_getElem?_getD, List.getElem?_eq_getElem hi]; rfl
  have := count_take_lt l i hi
  unfold wordN cn
  rw [hg, if_neg (by omega)]
  omega
theorem word_fit (l : List Nat) (hf : fillN l ≤ 32768) (i : Nat) (hi : i < l.length) (hp : 0 < l[i]) (h15 : l[i] ≤ 15) : wordN l i < 2 ^ l[i] := by
  have h1 := (word_lt l i hi hp).2
  have h2 := first_fit l hf l[i] h15
  omega
/-- Two places with words of one length have words of their own. -/
theorem word_inj (l : List Nat) (i j : Nat) (hi : i < l.length) (hj : j < l.length) (he : l[i] = l[j]) (hw : wordN l i = wordN l j) : i = j := by
  have gi : l.getD i 0 = l[i] := by rw [List.getD_eq_getElem?_getD, List.getElem?_eq_getElem hi]; rfl
  have gj : l.getD j 0 = l[j] := by rw [List.getD_eq_getElem?_getD, List.getElem?_eq_getElem hj]; rfl
  have hmono : ∀ a b, (hab : a < b) → (hb : b ≤ l.length) → (l.take a).count (l[a]'(by omega)) < (l.take b).count (l[a]'(by omega)) := by
    intro a b hab hb
    have h1 : (l.take b).take a = l.take a := by rw [List.take_take, Nat.min_eq_left (by omega)]
    have h2 := count_take_lt (l.take b) a (by rw [List.length_take]; omega)
    rw [h1, List.getElem_take] at h2
    exact h2
  unfold wordN at hw
  rw [gi, gj, he] at hw
  have hw' : (l.take i).count l[j] = (l.take j).count l[j] := by omega
  rcases Nat.lt_trichotomy i j with h | h | h
  · have := hmono i j h (by omega); rw [he] at this; omega
  · exact h
  · have := hmono j i h (by omega); omega
/-- No word begins another one. -/
theorem word_prefix (l : List Nat) (hf : fillN l ≤ 32768) (i j : Nat) (hi : i < l.length) (hj : j < l.length) (hp : 0 < l[i]) (hlt : l[i] < l[j]) (h15 : l[j] ≤ 15) : wordN l j / 2 ^ (l[j] - l[i]) ≠ wordN l i := by
  intro h
  have h1 := (word_lt l i hi hp).2
  have h2 := (word_lt l j hj (by omega)).1
  have h3 := first_over l l[i] l[j] hlt
  have h4 : (firstN l l[i] + cn l l[i]) * 2 ^ (l[j] - l[i]) ≤ wordN l j := by omega
  have h5 := (Nat.le_div_iff_mul_le (Nat.pow_pos (by omega : 0 < 2))).2 h4
  omega
end Go.Proofs.Ytlfcepdaicngjaa.Pk
