/- The signs of lengths and distances: the code's search and the reference's find the same. Plain Lean. -/
import Derived.Test.YtmhkhbdichlklaaBytes
import Derived.Test.YtmhkhbdichlklaaPx1
import Derived.Test.YtmhkhbdichlklaaPx2
import Derived.Test.YtmhkhbdichlklaaPx3
import Derived.Test.YtmhkhbdichlklaaPx4
import Derived.Test.YtmhkhbdichlklaaPx6
import Derived.Test.YtmhkhbdichlklaaPx7
import Derived.Test.YtmhkhbdichlklaaPx8
import Derived.Test.YtmhkhbdichlklaaPx9
namespace Go.Proofs.Ytmhkhbdichlklaa.D8
set_option linter.unusedVariables false
set_option linter.unusedSimpArgs false
open Go Go.RowKit Go.Proofs.Ytmhkhbdichlklaa.P Go.Proofs.Ytmhkhbdichlklaa.B Go.Proofs.YtmhkhbdichlklaaW.PrintWords Go.Proofs.YtmhkhbdichlklaaW.PrintLast Go.Proofs.YtmhkhbdichlklaaW.PrintMore

/-- Where sign s begins, and how many bits more it has. -/
def bD (s : Nat) : Nat := if s < 4 then s + 1 else 1 + (2 + s % 2) * 2 ^ (s / 2 - 1)
def mD (s : Nat) : Nat := if s < 4 then 0 else s / 2 - 1
def bL (s : Nat) : Nat := if s = 28 then 258 else if s < 8 then s + 3 else 3 + (4 + (s - 4) % 4) * 2 ^ ((s - 4) / 4)
def mL (s : Nat) : Nat := if s = 28 then 0 else if s < 8 then 0 else (s - 4) / 4
theorem tabD : ∀ s : Fin 30, inflate_Distances.f 1 (s.val : Int) = some ((bD s.val : Int), (mD s.val : Int)) := by decide +kernel
theorem tabD2 : ∀ s : Fin 30, portmanteauref06_Far.f 900 (s.val : Int) = some ((bD s.val : Int), (mD s.val : Int)) := by decide +kernel
theorem tabL : ∀ s : Fin 29, inflate_Lengths.f 1 ((257 + s.val : Nat) : Int) = some ((bL s.val : Int), (mL s.val : Int)) := by decide +kernel
theorem tabL2 : ∀ s : Fin 28, portmanteauref06_Base.f 900 ((257 + s.val : Nat) : Int) = some ((bL s.val : Int), (mL s.val : Int)) := by decide +kernel
theorem stepD : ∀ s : Fin 29, bD (s.val + 1) = bD s.val + 2 ^ mD s.val := by decide +kernel
theorem stepL : ∀ s : Fin 27, bL (s.val + 1) = bL s.val + 2 ^ mL s.val := by decide +kernel
theorem smallD : ∀ s : Fin 30, bD s.val ≤ 32768 ∧ 2 ^ mD s.val ≤ 8192 ∧ mD s.val ≤ 13 := by decide +kernel
theorem smallL : ∀ s : Fin 29, bL s.val ≤ 258 ∧ 2 ^ mL s.val ≤ 32 ∧ mL s.val ≤ 5 := by decide +kernel
theorem distF (k s : Nat) (hk : 1 ≤ k) (h : s < 30) : inflate_Distances.f k (s : Int) = some ((bD s : Int), (mD s : Int)) := by
  obtain ⟨k, rfl⟩ : ∃ m, k = m + 1 := ⟨k - 1, by omega⟩
  have h0 := tabD ⟨s, h⟩
  exact h0
theorem lenF (k s : Nat) (hk : 1 ≤ k) (h : s < 29) : inflate_Lengths.f k ((257 + s : Nat) : Int) = some ((bL s : Int), (mL s : Int)) := by
  obtain ⟨k, rfl⟩ : ∃ m, k = m + 1 := ⟨k - 1, by omega⟩
  have h0 := tabL ⟨s, h⟩
  exact h0
theorem farF (k s : Nat) (hk : 900 ≤ k) (h : s < 30) : portmanteauref06_Far.f k (s : Int) = some ((bD s : Int), (mD s : Int)) := by
  obtain ⟨j, rfl⟩ : ∃ j, k = 900 + j := ⟨k - 900, by omega⟩
  induction j with
  | zero => exact tabD2 ⟨s, h⟩
  | succ j ih => exact portmanteauref06_Far.mono _ _ _ (ih (by omega))
theorem baseF (k s : Nat) (hk : 900 ≤ k) (h : s < 28) : portmanteauref06_Base.f k ((257 + s : Nat) : Int) = some ((bL s : Int), (mL s : Int)) := by
  obtain ⟨j, rfl⟩ : ∃ j, k = 900 + j := ⟨k - 900, by omega⟩
  induction j with
  | zero => exact tabL2 ⟨s, h⟩
  | succ j ih => exact portmanteauref06_Base.mono _ _ _ (ih (by omega))
theorem monoD : ∀ d s, s + d < 30 → bD s ≤ bD (s + d) := by
  intro d
  induction d with
  | zero => intro s h; exact Nat.le_refl _
  | succ d ih => intro s h; have h1 := ih s (by omega); have h2 := stepD ⟨s + d, by omega⟩; simp only at h2; rw [← Nat.add_assoc, h2]; exact Nat.le_trans h1 (Nat.le_add_right _ _)
theorem monoL : ∀ d s, s + d < 28 → bL s ≤ bL (s + d) := by
  intro d
  induction d with
  | zero => intro s h; exact Nat.le_refl _
  | succ d ih => intro s h; have h1 := ih s (by omega); have h2 := stepL ⟨s + d, by omega⟩; simp only at h2; rw [← Nat.add_assoc, h2]; exact Nat.le_trans h1 (Nat.le_add_right _ _)
/-- Every distance has a sign. -/
theorem findD (n : Nat) (h1 : 1 ≤ n) (h2 : n ≤ 32768) : ∃ s, s < 30 ∧ bD s ≤ n ∧ n < bD s + 2 ^ mD s := by
  have key : ∀ t, t < 30 → n < bD t + 2 ^ mD t → ∃ s, s < 30 ∧ bD s ≤ n ∧ n < bD s + 2 ^ mD s := by
    intro t
    induction t with
    | zero => intro h h3; exact ⟨0, h, by simp [bD]; omega, h3⟩
    | succ t ih =>
      intro h h3
      by_cases h4 : bD (t + 1) ≤ n
      · exact ⟨t + 1, h, h4, h3⟩
      · have h5 := stepD ⟨t, by omega⟩
        simp only at h5
        exact ih (by omega) (by omega)
  exact key 29 (by decide) (by rw [show bD 29 + 2 ^ mD 29 = 32769 by decide]; omega)
theorem findL (n : Nat) (h1 : 3 ≤ n) (h2 : n ≤ 257) : ∃ s, s < 28 ∧ bL s ≤ n ∧ n < bL s + 2 ^ mL s := by
  have key : ∀ t, t < 28 → n < bL t + 2 ^ mL t → ∃ s, s < 28 ∧ bL s ≤ n ∧ n < bL s + 2 ^ mL s := by
    intro t
    induction t with
    | zero => intro h h3; exact ⟨0, h, by simp [bL]; omega, h3⟩
    | succ t ih =>
      intro h h3
      by_cases h4 : bL (t + 1) ≤ n
      · exact ⟨t + 1, h, h4, h3⟩
      · have h5 := stepL ⟨t, by omega⟩
        simp only at h5
        exact ih (by omega) (by omega)
  exact key 27 (by decide) (by rw [show bL 27 + 2 ^ mL 27 = 259 by decide]; omega)
theorem blockD (n s : Nat) (hs : s < 30) (h0 : bD s ≤ n) (h1 : n < bD s + 2 ^ mD s) : ∀ d k, s + d < 30 → d + 1 < k → block_Distance.l0 k n ((s + d : Nat) : Int) = some ((s : Int), (mD s : Int), ((n - bD s : Nat) : Int)) := by
  intro d
  have hsm := smallD ⟨s, hs⟩
  simp only at hsm
  induction d with
  | zero =>
    intro k h hk
    obtain ⟨k, rfl⟩ : ∃ m, k = m + 1 := ⟨k - 1, by omega⟩
    rw [block_Distance.l0, if_pos (by omega), Nat.add_zero, distF k s (by omega) hs]
    simp only [Option.bind_some]
    rw [if_pos (by omega), wrap_id (by omega) (by omega), show ((n : Int) - (bD s : Int)) % 4294967296 = ((n - bD s : Nat) : Int) by omega]
  | succ d ih =>
    intro k h hk
    obtain ⟨k, rfl⟩ : ∃ m, k = m + 1 := ⟨k - 1, by omega⟩
    have hst := stepD ⟨s, by omega⟩
    have hm := monoD d (s + 1) (by omega)
    simp only at hst
    rw [show s + 1 + d = s + (d + 1) by omega] at hm
    rw [block_Distance.l0, if_pos (by omega), distF k (s + (d + 1)) (by omega) h]
    simp only [Option.bind_some]
    rw [if_neg (by omega), wrap_id (by omega) (by omega), show ((s + (d + 1) : Nat) : Int) - 1 = ((s + d : Nat) : Int) by omega]
    exact ih k (by omega) (by omega)
theorem blockL (n s : Nat) (hs : s < 28) (h0 : bL s ≤ n) (h1 : n < bL s + 2 ^ mL s) (hn : n ≤ 257) : ∀ d k, s + d < 29 → d + 1 < k → block_Length.l0 k n ((257 + (s + d) : Nat) : Int) = some (((257 + s : Nat) : Int), (mL s : Int), ((n - bL s : Nat) : Int)) := by
  intro d
  have hsm := smallL ⟨s, by omega⟩
  simp only at hsm
  induction d with
  | zero =>
    intro k h hk
    obtain ⟨k, rfl⟩ : ∃ m, k = m + 1 := ⟨k - 1, by omega⟩
    rw [block_Length.l0, if_pos (by omega), Nat.add_zero, lenF k s (by omega) (by omega)]
    simp only [Option.bind_some]
    rw [if_pos (by omega), wrap_id (by omega) (by omega), show ((n : Int) - (bL s : Int)) % 4294967296 = ((n - bL s : Nat) : Int) by omega]
  | succ d ih =>
    intro k h hk
    obtain ⟨k, rfl⟩ : ∃ m, k = m + 1 := ⟨k - 1, by omega⟩
    have hbig : n < bL (s + (d + 1)) := by
      by_cases h28 : s + (d + 1) = 28
      · rw [h28]; have : bL 28 = 258 := by decide
        omega
      · have hst := stepL ⟨s, by omega⟩
        have hm := monoL d (s + 1) (by omega)
        simp only at hst
        rw [show s + 1 + d = s + (d + 1) by omega] at hm
        omega
    rw [block_Length.l0, if_pos (by omega), lenF k (s + (d + 1)) (by omega) h]
    simp only [Option.bind_some]
    rw [if_neg (by omega), wrap_id (by omega) (by omega), show ((257 + (s + (d + 1)) : Nat) : Int) - 1 = ((257 + (s + d) : Nat) : Int) by omega]
    exact ih k (by omega) (by omega)
theorem pow2_wrap (i : Nat) (h : i < 20) : wrap64 (((2 ^ i : Nat) : Int) * 2) = ((2 ^ (i + 1) : Nat) : Int) := by
  have : 2 ^ i ≤ 2 ^ 20 := Nat.pow_le_pow_right (by decide) (by omega)
  rw [Nat.pow_succ]
  generalize 2 ^ i = p at this ⊢
  rw [wrap_id (by omega) (by omega)]
  simp
theorem refl1D (n s b m : Nat) (hm : m ≤ 13) (hb : b ≤ 32768) : ∀ d i k, i + d = m → portmanteauref08_Distance.l1 (k + d + 1) n s b m ((2 ^ i : Nat) : Int) i =
    (if n ≥ b then (if n < b + 2 ^ m then some ((s : Int), (m : Int), ((n - b : Nat) : Int)) else portmanteauref08_Distance.l0 k n (wrap64 ((s : Int) + 1))) else portmanteauref08_Distance.l0 k n (wrap64 ((s : Int) + 1))) := by
  intro d
  induction d with
  | zero =>
    intro i k h
    obtain rfl : i = m := by omega
    have hp : 2 ^ i ≤ 2 ^ 13 := Nat.pow_le_pow_right (by decide) hm
    generalize 2 ^ i = p at hp ⊢
    rw [portmanteauref08_Distance.l1, if_neg (by omega), wrap_id (x := (b : Int) + _) (by omega) (by omega)]
    by_cases h1 : n ≥ b
    · rw [if_pos (by omega), if_pos h1]
      by_cases h2 : n < b + p
      · rw [if_pos (by omega), if_pos h2, wrap_id (by omega) (by omega), show ((n : Int) - (b : Int)) % 4294967296 = ((n - b : Nat) : Int) by omega]
      · rw [if_neg (by omega), if_neg h2]
    · rw [if_neg (by omega), if_neg h1]
  | succ d ih =>
    intro i k h
    rw [show k + (d + 1) + 1 = (k + d + 1) + 1 by omega, portmanteauref08_Distance.l1, if_pos (by omega), pow2_wrap i (by omega), wrap_id (x := (i : Int) + 1) (by omega) (by omega)]
    exact ih (i + 1) k (by omega)
theorem refl1L (n s b m : Nat) (hm : m ≤ 13) (hb : b ≤ 32768) : ∀ d i k, i + d = m → portmanteauref08_Length.l1 (k + d + 1) n s b m ((2 ^ i : Nat) : Int) i =
    (if n ≥ b then (if n < b + 2 ^ m then some ((s : Int), (m : Int), ((n - b : Nat) : Int)) else portmanteauref08_Length.l0 k n (wrap64 ((s : Int) + 1))) else portmanteauref08_Length.l0 k n (wrap64 ((s : Int) + 1))) := by
  intro d
  induction d with
  | zero =>
    intro i k h
    obtain rfl : i = m := by omega
    have hp : 2 ^ i ≤ 2 ^ 13 := Nat.pow_le_pow_right (by decide) hm
    generalize 2 ^ i = p at hp ⊢
    rw [portmanteauref08_Length.l1, if_neg (by omega), wrap_id (x := (b : Int) + _) (by omega) (by omega)]
    by_cases h1 : n ≥ b
    · rw [if_pos (by omega), if_pos h1]
      by_cases h2 : n < b + p
      · rw [if_pos (by omega), if_pos h2, wrap_id (by omega) (by omega), show ((n : Int) - (b : Int)) % 4294967296 = ((n - b : Nat) : Int) by omega]
      · rw [if_neg (by omega), if_neg h2]
    · rw [if_neg (by omega), if_neg h1]
  | succ d ih =>
    intro i k h
    rw [show k + (d + 1) + 1 = (k + d + 1) + 1 by omega, portmanteauref08_Length.l1, if_pos (by omega), pow2_wrap i (by omega), wrap_id (x := (i : Int) + 1) (by omega) (by omega)]
    exact ih (i + 1) k (by omega)
theorem refD (n s : Nat) (hs : s < 30) (h0 : bD s ≤ n) (h1 : n < bD s + 2 ^ mD s) : ∀ d t k, t + d = s → 900 + 20 * d + 20 ≤ k → portmanteauref08_Distance.l0 k n (t : Int) = some ((s : Int), (mD s : Int), ((n - bD s : Nat) : Int)) := by
  intro d
  induction d with
  | zero =>
    intro t k h hk
    obtain rfl : t = s := by omega
    have hsm := smallD ⟨t, hs⟩
    simp only at hsm
    obtain ⟨k, rfl⟩ : ∃ m, k = m + mD t + 1 + 1 := ⟨k - mD t - 2, by omega⟩
    rw [portmanteauref08_Distance.l0, if_pos (by omega), farF _ t (by omega) hs]
    simp only [Option.bind_some]
    have h := refl1D n t (bD t) (mD t) (by omega) (by omega) (mD t) 0 k (by omega)
    rw [Nat.pow_zero] at h
    rw [show ((1 : Nat) : Int) = 1 from rfl, show ((0 : Nat) : Int) = 0 from rfl] at h
    rw [h, if_pos h0, if_pos h1]
  | succ d ih =>
    intro t k h hk
    have hsm := smallD ⟨t, by omega⟩
    simp only at hsm
    obtain ⟨k, rfl⟩ : ∃ m, k = m + mD t + 1 + 1 := ⟨k - mD t - 2, by omega⟩
    have hst := stepD ⟨t, by omega⟩
    simp only at hst
    have hmo := monoD d (t + 1) (by omega)
    have hm1 := monoD 1 t (by omega)
    rw [show t + 1 + d = s by omega] at hmo
    rw [portmanteauref08_Distance.l0, if_pos (by omega), farF _ t (by omega) (by omega)]
    simp only [Option.bind_some]
    have h3 := refl1D n t (bD t) (mD t) (by omega) (by omega) (mD t) 0 k (by omega)
    rw [Nat.pow_zero] at h3
    rw [show ((1 : Nat) : Int) = 1 from rfl, show ((0 : Nat) : Int) = 0 from rfl] at h3
    rw [h3, if_pos (by omega), if_neg (by omega), wrap_id (by omega) (by omega)]
    exact ih (t + 1) k (by omega) (by omega)
theorem refL (n s : Nat) (hs : s < 28) (h0 : bL s ≤ n) (h1 : n < bL s + 2 ^ mL s) : ∀ d t k, t + d = s → 900 + 20 * d + 20 ≤ k → portmanteauref08_Length.l0 k n ((257 + t : Nat) : Int) = some (((257 + s : Nat) : Int), (mL s : Int), ((n - bL s : Nat) : Int)) := by
  intro d
  induction d with
  | zero =>
    intro t k h hk
    obtain rfl : t = s := by omega
    have hsm := smallL ⟨t, by omega⟩
    simp only at hsm
    obtain ⟨k, rfl⟩ : ∃ m, k = m + mL t + 1 + 1 := ⟨k - mL t - 2, by omega⟩
    rw [portmanteauref08_Length.l0, if_pos (by omega), baseF _ t (by omega) hs]
    simp only [Option.bind_some]
    have h := refl1L n (257 + t) (bL t) (mL t) (by omega) (by omega) (mL t) 0 k (by omega)
    rw [Nat.pow_zero] at h
    rw [show ((1 : Nat) : Int) = 1 from rfl, show ((0 : Nat) : Int) = 0 from rfl] at h
    rw [h, if_pos h0, if_pos h1]
  | succ d ih =>
    intro t k h hk
    have hsm := smallL ⟨t, by omega⟩
    simp only at hsm
    obtain ⟨k, rfl⟩ : ∃ m, k = m + mL t + 1 + 1 := ⟨k - mL t - 2, by omega⟩
    have hst := stepL ⟨t, by omega⟩
    simp only at hst
    have hmo := monoL d (t + 1) (by omega)
    have hm1 := monoL 1 t (by omega)
    rw [show t + 1 + d = s by omega] at hmo
    rw [portmanteauref08_Length.l0, if_pos (by omega), baseF _ t (by omega) (by omega)]
    simp only [Option.bind_some]
    have h3 := refl1L n (257 + t) (bL t) (mL t) (by omega) (by omega) (mL t) 0 k (by omega)
    rw [Nat.pow_zero] at h3
    rw [show ((1 : Nat) : Int) = 1 from rfl, show ((0 : Nat) : Int) = 0 from rfl] at h3
    rw [h3, if_pos (by omega), if_neg (by omega), wrap_id (by omega) (by omega), show ((257 + t : Nat) : Int) + 1 = ((257 + (t + 1) : Nat) : Int) by omega]
    exact ih (t + 1) k (by omega) (by omega)
/-- The sign of a distance, of a length: what both say. -/
theorem dist_in (n : Nat) (h1 : 1 ≤ n) (h2 : n ≤ 32768) : ∃ s, s < 30 ∧ bD s ≤ n ∧ n < bD s + 2 ^ mD s ∧ block_Distance.f 40 n = some ((s : Int), (mD s : Int), ((n - bD s : Nat) : Int)) ∧ portmanteauref08_Distance.f 1600 n = some ((s : Int), (mD s : Int), ((n - bD s : Nat) : Int)) := by
  obtain ⟨s, hs, h3, h4⟩ := findD n h1 h2
  refine ⟨s, hs, h3, h4, ?_, ?_⟩
  · unfold block_Distance.f
    rw [if_neg (by omega), show (40 : Nat) = 39 + 1 from rfl, block_Distance.j0, if_neg (by simp; omega)]
    have h := blockD n s hs h3 h4 (29 - s) 39 (by omega) (by omega)
    rwa [show s + (29 - s) = 29 by omega] at h
  · exact refD n s hs h3 h4 s 0 1600 (by omega) (by omega)
theorem len_in (n : Nat) (h1 : 3 ≤ n) (h2 : n ≤ 257) : ∃ s, s < 28 ∧ bL s ≤ n ∧ n < bL s + 2 ^ mL s ∧ block_Length.f 40 n = some (((257 + s : Nat) : Int), (mL s : Int), ((n - bL s : Nat) : Int)) ∧ portmanteauref08_Length.f 1600 n = some (((257 + s : Nat) : Int), (mL s : Int), ((n - bL s : Nat) : Int)) := by
  obtain ⟨s, hs, h3, h4⟩ := findL n h1 h2
  refine ⟨s, hs, h3, h4, ?_, ?_⟩
  · unfold block_Length.f
    rw [if_neg (by omega), show (40 : Nat) = 39 + 1 from rfl, block_Length.j0, if_neg (by simp; omega)]
    have h := blockL n s hs h3 h4 h2 (28 - s) 39 (by omega) (by omega)
    rwa [show 257 + (s + (28 - s)) = 285 by omega] at h
  · unfold portmanteauref08_Length.f
    rw [if_neg (by omega), if_neg (by omega), show (1600 : Nat) = 1599 + 1 from rfl, portmanteauref08_Length.j0, if_neg (by simp; omega)]
    exact refL n s hs h3 h4 s 0 1599 (by omega) (by omega)
theorem len_258 : block_Length.f 40 258 = some (285, 0, 0) ∧ portmanteauref08_Length.f 1600 258 = some (285, 0, 0) := by decide +kernel
/-- Out of range: none. -/
theorem len_out (n : Int) (h : n < 3 ∨ 258 < n) : block_Length.f 40 n = some (0, 0, 0) ∧ portmanteauref08_Length.f 1600 n = some (0, 0, 0) := by
  unfold block_Length.f portmanteauref08_Length.f
  rw [show (40 : Nat) = 39 + 1 from rfl, show (1600 : Nat) = 1599 + 1 from rfl]
  by_cases h1 : n < 3
  · rw [if_pos h1, if_neg (by omega), if_pos h1, block_Length.j0, if_pos rfl, portmanteauref08_Length.j0, if_pos rfl]; exact ⟨rfl, rfl⟩
  · rw [if_neg h1, if_neg (by omega), if_neg h1, block_Length.j0, if_pos (by simp; omega), portmanteauref08_Length.j0, if_pos (by simp; omega)]; exact ⟨rfl, rfl⟩
theorem refl1N (n : Int) (s b m : Nat) (hm : m ≤ 13) (hb : b ≤ 32768) (hn : n < b ∨ ((b + 2 ^ m : Nat) : Int) ≤ n) : ∀ d i k, i + d = m → portmanteauref08_Distance.l1 (k + d + 1) n s b m ((2 ^ i : Nat) : Int) i = portmanteauref08_Distance.l0 k n (wrap64 ((s : Int) + 1)) := by
  intro d
  induction d with
  | zero =>
    intro i k h
    obtain rfl : i = m := by omega
    have hp : 2 ^ i ≤ 2 ^ 13 := Nat.pow_le_pow_right (by decide) hm
    generalize 2 ^ i = p at hp hn ⊢
    rw [portmanteauref08_Distance.l1, if_neg (by omega), wrap_id (x := (b : Int) + _) (by omega) (by omega)]
    by_cases h1 : n ≥ b
    · rw [if_pos h1, if_neg (by omega)]
    · rw [if_neg h1]
  | succ d ih =>
    intro i k h
    rw [show k + (d + 1) + 1 = (k + d + 1) + 1 by omega, portmanteauref08_Distance.l1, if_pos (by omega), pow2_wrap i (by omega), wrap_id (x := (i : Int) + 1) (by omega) (by omega)]
    exact ih (i + 1) k (by omega)
theorem ref_none (n : Int) (h : n < 1 ∨ 32768 < n) : ∀ (d t k : Nat), t + d = 30 → 900 + 20 * d + 20 ≤ k → portmanteauref08_Distance.l0 k n (t : Int) = some (-1, 0, 0) := by
  intro d
  induction d with
  | zero =>
    intro t k h1 hk
    obtain ⟨k, rfl⟩ : ∃ m, k = m + 1 := ⟨k - 1, by omega⟩
    rw [portmanteauref08_Distance.l0, if_neg (by omega)]
  | succ d ih =>
    intro t k h1 hk
    have hsm := smallD ⟨t, by omega⟩
    simp only at hsm
    obtain ⟨k, rfl⟩ : ∃ m, k = m + mD t + 1 + 1 := ⟨k - mD t - 2, by omega⟩
    have hlo : 1 ≤ bD t := by have h2 := monoD t 0 (by omega); rw [Nat.zero_add] at h2; have h0 : bD 0 = 1 := rfl; omega
    have hhi : bD t + 2 ^ mD t ≤ 32769 := by
      by_cases h29 : t = 29
      · subst h29; decide
      · have hst := stepD ⟨t, by omega⟩
        simp only at hst
        have := smallD ⟨t + 1, by omega⟩
        simp only at this
        omega
    rw [portmanteauref08_Distance.l0, if_pos (by omega), farF _ t (by omega) (by omega)]
    simp only [Option.bind_some]
    have h3 := refl1N n t (bD t) (mD t) (by omega) (by omega) (h.elim (fun h => Or.inl (by omega)) (fun h => Or.inr (by omega))) (mD t) 0 k (by omega)
    rw [Nat.pow_zero] at h3
    rw [show ((1 : Nat) : Int) = 1 from rfl, show ((0 : Nat) : Int) = 0 from rfl] at h3
    rw [h3, wrap_id (by omega) (by omega)]
    exact ih (t + 1) k (by omega) (by omega)
theorem dist_out (n : Int) (h : n < 1 ∨ 32768 < n) : block_Distance.f 40 n = some (-1, 0, 0) ∧ portmanteauref08_Distance.f 1600 n = some (-1, 0, 0) := by
  refine ⟨?_, ref_none n h 30 0 1600 (by omega) (by omega)⟩
  unfold block_Distance.f
  rw [show (40 : Nat) = 39 + 1 from rfl]
  by_cases h1 : n < 1
  · rw [if_pos h1, block_Distance.j0, if_pos rfl]
  · rw [if_neg h1, block_Distance.j0, if_pos (by simp; omega)]
end Go.Proofs.Ytmhkhbdichlklaa.D8
