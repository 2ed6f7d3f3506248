/- The finder, told in plain Lean: which places a triple has been at, how long two places are alike, the longest copy, the tokens. -/
import Derived.Test.YtgpmhdefpbmhjaaPlaces
import Derived.Test.YtgpmhdefpbmhjaaMapV
namespace Go.Proofs.Ytgpmhdefpbmhjaa.Fi
set_option linter.unusedVariables false
set_option linter.unusedSimpArgs false
open Go Go.RowKit Go.Proofs.Ytgpmhdefpbmhjaa.P Go.Proofs.Ytgpmhdefpbmhjaa.B Go.Proofs.Ytgpmhdefpbmhjaa.D7 Go.Proofs.Ytgpmhdefpbmhjaa.Ch Go.Proofs.Ytgpmhdefpbmhjaa.MapG Go.Proofs.Ytgpmhdefpbmhjaa.MapV Go.Proofs.YtgpmhdefpbmhjaaW.PrintWords Go.Proofs.YtgpmhdefpbmhjaaW.PrintLast Go.Proofs.YtgpmhdefpbmhjaaW.PrintMore

/-- How many of the first n places begin with a triple, and which. -/
def cnt (s : ByteArray) (t : Tri) : Nat → Nat
  | 0 => 0
  | n + 1 => if n + 3 ≤ s.size ∧ tri s n = t then cnt s t n + 1 else cnt s t n
def posL (s : ByteArray) (t : Tri) : Nat → List Int
  | 0 => []
  | n + 1 => if n + 3 ≤ s.size ∧ tri s n = t then posL s t n ++ [(n : Int)] else posL s t n
theorem pos_succ (s : ByteArray) (t : Tri) (n : Nat) : posL s t (n + 1) = if n + 3 ≤ s.size ∧ tri s n = t then posL s t n ++ [(n : Int)] else posL s t n := rfl
theorem cnt_succ (s : ByteArray) (t : Tri) (n : Nat) : cnt s t (n + 1) = if n + 3 ≤ s.size ∧ tri s n = t then cnt s t n + 1 else cnt s t n := rfl
theorem posL_len (s : ByteArray) (t : Tri) : ∀ n, (posL s t n).length = cnt s t n
  | 0 => rfl
  | n + 1 => by
    unfold posL cnt
    split
    · rw [List.length_append, posL_len s t n]; rfl
    · exact posL_len s t n
theorem cnt_le (s : ByteArray) (t : Tri) : ∀ n, cnt s t n ≤ n
  | 0 => Nat.le_refl _
  | n + 1 => by
    have := cnt_le s t n
    unfold cnt
    split <;> omega
theorem get_pos (s : ByteArray) (t : Tri) : ∀ n, n ≤ s.size - 2 → getL (chL s n) t = posL s t n
  | 0, _ => by unfold getL; rfl
  | n + 1, h => by
    rw [chL_get_succ, get_pos s t n (by omega), pos_succ]
    by_cases e : tri s n = t
    · rw [if_pos e, if_pos ⟨by omega, e⟩]
    · rw [if_neg e, if_neg (fun q => e q.2)]
theorem take_pos (s : ByteArray) (t : Tri) (n : Nat) : ∀ d, (posL s t (n + d)).take (cnt s t n) = posL s t n ∧ cnt s t n ≤ (posL s t (n + d)).length
  | 0 => by rw [Nat.add_zero, ← posL_len]; exact ⟨List.take_length, Nat.le_refl _⟩
  | d + 1 => by
    obtain ⟨h1, h2⟩ := take_pos s t n d
    rw [show n + (d + 1) = (n + d) + 1 by omega, posL]
    split
    · refine ⟨?_, by rw [List.length_append]; omega⟩
      rw [List.take_append_of_le_length h2, h1]
    · exact ⟨h1, h2⟩
theorem pos_far (s : ByteArray) (t : Tri) : ∀ d, posL s t (s.size - 2 + d) = posL s t (s.size - 2)
  | 0 => rfl
  | d + 1 => by
    rw [show s.size - 2 + (d + 1) = (s.size - 2 + d) + 1 by omega, posL, if_neg (by omega)]
    exact pos_far s t d
/-- The row that the chains have of a triple, cut to the places that are behind. -/
theorem chain_take (s : ByteArray) (hs : s.size ≤ 1048576) (t : Tri) (n : Nat) : (getL (chL s (places s)) t).take (cnt s t n) = posL s t n ∧ cnt s t n ≤ (getL (chL s (places s)) t).length := by
  have hp : places s = s.size - 2 := by unfold places; rw [if_pos hs]
  rw [hp, get_pos s t _ (Nat.le_refl _)]
  by_cases h : n ≤ s.size - 2
  · have := take_pos s t n (s.size - 2 - n)
    rwa [show n + (s.size - 2 - n) = s.size - 2 by omega] at this
  · have e := pos_far s t (n - (s.size - 2))
    rw [show s.size - 2 + (n - (s.size - 2)) = n by omega] at e
    rw [← e, ← posL_len, List.take_length]
    exact ⟨rfl, Nat.le_refl _⟩
theorem pos_mem (s : ByteArray) (t : Tri) : ∀ n c, c ∈ posL s t n → ∃ i : Nat, c = (i : Int) ∧ i < n ∧ i + 3 ≤ s.size ∧ tri s i = t
  | 0, c, h => by cases h
  | n + 1, c, h => by
    unfold posL at h
    split at h
    · next q =>
      rcases List.mem_append.1 h with h | h
      · obtain ⟨i, a, b, d⟩ := pos_mem s t n c h; exact ⟨i, a, by omega, d⟩
      · rw [List.mem_singleton.1 h]; exact ⟨n, rfl, by omega, q⟩
    · obtain ⟨i, a, b, d⟩ := pos_mem s t n c h; exact ⟨i, a, by omega, d⟩
/-- What has been seen, as a map. -/
def seenG (s : ByteArray) (n : Nat) : Tri → Option Value := fun t => if cnt s t n = 0 then none else some (.int .i64 (cnt s t n : Int))
theorem seen_zero (s : ByteArray) : seenG s 0 = fun _ => none := rfl
theorem seen_get (s : ByteArray) (n : Nat) (t : Tri) : (seenG s n t).getD (.int .i64 0) = .int .i64 (cnt s t n : Int) := by
  unfold seenG
  split
  · next h => rw [h]; rfl
  · rfl
theorem seen_succ (s : ByteArray) (n : Nat) (h : n + 3 ≤ s.size) : upd (seenG s n) (tri s n) (.int .i64 ((cnt s (tri s n) n : Int) + 1)) = seenG s (n + 1) := by
  funext t
  have hc := cnt_succ s t n
  unfold upd seenG
  by_cases e : t = tri s n
  · subst e
    rw [if_pos ⟨h, rfl⟩] at hc
    rw [if_pos rfl, hc, if_neg (by omega)]
    rfl
  · rw [if_neg (fun q => e q.2.symm)] at hc
    rw [if_neg e, hc]
theorem seen_stay (s : ByteArray) (n : Nat) (h : ¬ n + 3 ≤ s.size) : seenG s (n + 1) = seenG s n := by
  funext t
  have hc := cnt_succ s t n
  rw [if_neg (fun q => h q.1)] at hc
  unfold seenG
  rw [hc]

/-- How many bytes are alike at two places. -/
def sameGo (s : ByteArray) (a b : Nat) : Nat → Nat → Nat
  | 0, n => n
  | k + 1, n => if b + n < s.size ∧ bt s ((a + n : Nat) : Int) = bt s ((b + n : Nat) : Int) then sameGo s a b k (n + 1) else n
def sameN (s : ByteArray) (a b : Nat) : Nat := sameGo s a b 258 0
theorem same_facts (s : ByteArray) (a b : Nat) : ∀ k n, b + n ≤ s.size → n ≤ sameGo s a b k n ∧ sameGo s a b k n ≤ n + k ∧ b + sameGo s a b k n ≤ s.size ∧ ∀ i, n ≤ i → i < sameGo s a b k n → bt s ((a + i : Nat) : Int) = bt s ((b + i : Nat) : Int)
  | 0, n, h => ⟨Nat.le_refl _, Nat.le_refl _, h, fun i h1 h2 => by unfold sameGo at h2; omega⟩
  | k + 1, n, h => by
    unfold sameGo
    split
    · next q =>
      obtain ⟨c1, c2, c3, c4⟩ := same_facts s a b k (n + 1) (by omega)
      refine ⟨by omega, by omega, c3, fun i h1 h2 => ?_⟩
      by_cases e : i = n
      · subst e; exact q.2
      · exact c4 i (by omega) h2
    · exact ⟨Nat.le_refl _, by omega, h, fun i h1 h2 => by omega⟩
/-- The longest copy at a place, of places from the last one on. -/
def bestGo (s : ByteArray) (p : Nat) (good : Int) : List Int → Int → Int → Int × Int
  | [], l, d => (l, d)
  | c :: r, l, d => if 32768 < (p : Int) - c then (l, d) else
      if l < (sameN s c.toNat p : Int) then (if good ≤ (sameN s c.toNat p : Int) then ((sameN s c.toNat p : Int), (p : Int) - c) else bestGo s p good r (sameN s c.toNat p) ((p : Int) - c))
      else (if good ≤ l then (l, d) else bestGo s p good r l d)
def lastOf (zs : List Int) (n : Int) : List Int := (zs.drop (zs.length - n.toNat)).reverse
def bestL (s : ByteArray) (e : S53) (p : Nat) : Int × Int :=
  if s.size < p + 3 then (0, 0) else bestGo s p e.f1 (lastOf (posL s (tri s p) p) e.f0) 0 0
/-- A copy that may be: so long, so far. -/
def Fine (s : ByteArray) (p : Nat) (l d : Int) : Prop := 0 ≤ l ∧ l ≤ 258 ∧ (p : Int) + l ≤ s.size ∧ (1 ≤ l → 1 ≤ d ∧ d ≤ 32768 ∧ d ≤ p ∧ ∀ i : Nat, (i : Int) < l → bt s ((p : Int) - d + i) = bt s ((p : Int) + i))
theorem best_fine (s : ByteArray) (p : Nat) (hp : p ≤ s.size) (good : Int) : ∀ (cs : List Int) (l d : Int), (∀ c ∈ cs, ∃ i : Nat, c = (i : Int) ∧ i < p) → Fine s p l d → Fine s p (bestGo s p good cs l d).1 (bestGo s p good cs l d).2
  | [], l, d, _, h => h
  | c :: r, l, d, hc, h => by
    unfold bestGo
    split
    · exact h
    next hw =>
    obtain ⟨i, rfl, hi⟩ := hc c (by simp)
    have hr : ∀ c ∈ r, ∃ i : Nat, c = (i : Int) ∧ i < p := fun c h => hc c (by simp [h])
    have hf : Fine s p (sameN s i p : Int) ((p : Int) - i) := by
      obtain ⟨c1, c2, c3, c4⟩ := same_facts s i p 258 0 (by omega)
      have e : sameN s i p = sameGo s i p 258 0 := rfl
      rw [e]
      refine ⟨by omega, by omega, by omega, fun _ => ⟨by omega, by omega, by omega, fun j hj => ?_⟩⟩
      have := c4 j (by omega) (by omega)
      rw [show (p : Int) - ((p : Int) - i) + j = ((i + j : Nat) : Int) by omega, show (p : Int) + j = ((p + j : Nat) : Int) by omega]
      exact this
    rw [Int.toNat_natCast]
    split
    · split
      · exact hf
      · exact best_fine s p hp good r _ _ hr hf
    · split
      · exact h
      · exact best_fine s p hp good r _ _ hr h
theorem bestL_fine (s : ByteArray) (e : S53) (p : Nat) (hp : p ≤ s.size) : Fine s p (bestL s e p).1 (bestL s e p).2 := by
  unfold bestL
  split
  · exact ⟨by decide, by decide, by simp; omega, fun h => by simp at h⟩
  refine best_fine s p hp _ _ _ _ (fun c hc => ?_) ⟨by decide, by decide, by omega, fun h => by omega⟩
  unfold lastOf at hc
  obtain ⟨i, a, b, _⟩ := pos_mem s _ p c (List.mem_of_mem_drop (List.mem_reverse.1 hc))
  exact ⟨i, a, b⟩
/-- How long a copy at a place is taken to be: none, if the next place has a longer one. -/
def takeL (s : ByteArray) (e : S53) (p : Nat) : Int :=
  if e.f2 = true ∧ 3 ≤ (bestL s e p).1 ∧ (bestL s e p).1 < e.f1 ∧ (bestL s e p).1 < (bestL s e (p + 1)).1 then 0 else (bestL s e p).1
/-- The tokens from a place on. -/
def findGo (s : ByteArray) (e : S53) : Nat → Nat → List S25 → List S25
  | 0, _, out => out
  | k + 1, p, out => if p < s.size then
      (if takeL s e p < 3 then findGo s e k (p + 1) (out ++ [⟨bt s p, 0, 0⟩]) else findGo s e k (p + (takeL s e p).toNat) (out ++ [⟨0, takeL s e p, (bestL s e p).2⟩]))
      else out
def effL (l : Int) : S53 :=
  if l = 1 then ⟨4, 8, false⟩ else if l = 2 then ⟨8, 16, false⟩ else if l = 3 then ⟨16, 32, false⟩ else if l = 4 then ⟨16, 16, true⟩ else if l = 5 then ⟨32, 32, true⟩ else if l = 6 then ⟨128, 128, true⟩ else if l = 7 then ⟨256, 128, true⟩ else if l = 8 then ⟨1024, 258, true⟩ else ⟨4096, 258, true⟩
/-- The tokens of a text that are bytes alone. -/
def bytesL (s : ByteArray) : List S25 := (List.range s.size).map fun i : Nat => ⟨bt s (i : Int), 0, 0⟩
def findL (s : ByteArray) (l : Int) : List S25 × Int :=
  if l < 0 ∨ 9 < l then ([], 2) else if 1048576 < s.size then ([], 5) else if l = 0 then (bytesL s, 0) else (findGo s (effL l) (s.size + 1) 0 [], 0)
theorem rem_step (zs : List Int) (lo K : Nat) (h1 : lo < K) (h2 : K ≤ zs.length) : ((zs.take K).drop lo).reverse = zs[K - 1] :: ((zs.take (K - 1)).drop lo).reverse := by
  have e : zs.take K = zs.take (K - 1) ++ [zs[K - 1]] := by
    have := List.take_succ_eq_append_getElem (l := zs) (i := K - 1) (by omega)
    rwa [show K - 1 + 1 = K by omega] at this
  rw [e, List.drop_append_of_le_length (by rw [List.length_take]; omega), List.reverse_append]
  rfl
theorem rem_none (zs : List Int) (lo : Nat) : ((zs.take lo).drop lo).reverse = [] := by
  rw [List.drop_eq_nil_of_le (by rw [List.length_take]; omega)]; rfl
end Go.Proofs.Ytgpmhdefpbmhjaa.Fi
