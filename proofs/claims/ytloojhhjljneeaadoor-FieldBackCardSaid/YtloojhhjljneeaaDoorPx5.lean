/- Written by a program of this session (wip/print2: a patched copy of a printer), not by print.sh: Lean functions with the answers of the Go functions, and the proofs of that; no condition beside those that stand in each theorem. -/
import Derived.Test.YtloojhhjljneeaaDoorPx0
import Derived.Test.YtloojhhjljneeaaDoorPx4
namespace Go.Proofs.YtloojhhjljneeaaDoor.P
open Go.RowKit Go.Proofs.YtloojhhjljneeaaDoorW.PrintWords Go.Proofs.YtloojhhjljneeaaDoorW.PrintLast Go.Proofs.YtloojhhjljneeaaDoorW.PrintMore
attribute [local go_sem] max2_int min2_int max_two min_two max_three min_three max_four min_four   -- for this text's walks alone
set_option linter.unusedVariables false
set_option linter.unusedSimpArgs false

/-! ### portmanteauref10_One: function 32 -/
mutual
def portmanteauref10_One.j0 : Nat → ByteArray → Int → Int → Int → Int → Int → Bool → Option (Int × Int)
  | 0, _, _, _, _, _, _, _ => none
  | k + 1, x0, x1, x6, x7, x8, x9, x24 => if x24 = true then (portmanteauref10_One.j1 k x0 x1 x6 1 x8 x9) else (portmanteauref10_One.j1 k x0 x1 x6 x7 x8 x9)
def portmanteauref10_One.j1 : Nat → ByteArray → Int → Int → Int → Int → Int → Option (Int × Int)
  | 0, _, _, _, _, _, _ => none
  | k + 1, x0, x1, x6, x7, x8, x9 => if x6 ≥ 224 then (portmanteauref10_One.j2 k x0 x1 x6 x7 x8 x9 (decide (x6 ≤ 239))) else (portmanteauref10_One.j2 k x0 x1 x6 x7 x8 x9 false)
def portmanteauref10_One.j2 : Nat → ByteArray → Int → Int → Int → Int → Int → Bool → Option (Int × Int)
  | 0, _, _, _, _, _, _, _ => none
  | k + 1, x0, x1, x6, x7, x8, x9, x30 => if x30 = true then (portmanteauref10_One.j3 k x0 x1 x6 2 x8 x9) else (portmanteauref10_One.j3 k x0 x1 x6 x7 x8 x9)
def portmanteauref10_One.j3 : Nat → ByteArray → Int → Int → Int → Int → Int → Option (Int × Int)
  | 0, _, _, _, _, _, _ => none
  | k + 1, x0, x1, x6, x7, x8, x9 => if x6 ≥ 240 then (portmanteauref10_One.j4 k x0 x1 x6 x7 x8 x9 (decide (x6 ≤ 244))) else (portmanteauref10_One.j4 k x0 x1 x6 x7 x8 x9 false)
def portmanteauref10_One.j4 : Nat → ByteArray → Int → Int → Int → Int → Int → Bool → Option (Int × Int)
  | 0, _, _, _, _, _, _, _ => none
  | k + 1, x0, x1, x6, x7, x8, x9, x36 => if x36 = true then (portmanteauref10_One.j5 k x0 x1 x6 3 x8 x9) else (portmanteauref10_One.j5 k x0 x1 x6 x7 x8 x9)
def portmanteauref10_One.j5 : Nat → ByteArray → Int → Int → Int → Int → Int → Option (Int × Int)
  | 0, _, _, _, _, _, _ => none
  | k + 1, x0, x1, x6, x7, x8, x9 => if x6 = 224 then (portmanteauref10_One.j6 k x0 x1 x6 x7 160 x9) else (portmanteauref10_One.j6 k x0 x1 x6 x7 x8 x9)
def portmanteauref10_One.j6 : Nat → ByteArray → Int → Int → Int → Int → Int → Option (Int × Int)
  | 0, _, _, _, _, _, _ => none
  | k + 1, x0, x1, x6, x7, x8, x9 => if x6 = 237 then (portmanteauref10_One.j7 k x0 x1 x6 x7 x8 159) else (portmanteauref10_One.j7 k x0 x1 x6 x7 x8 x9)
def portmanteauref10_One.j7 : Nat → ByteArray → Int → Int → Int → Int → Int → Option (Int × Int)
  | 0, _, _, _, _, _, _ => none
  | k + 1, x0, x1, x6, x7, x8, x9 => if x6 = 240 then (portmanteauref10_One.j8 k x0 x1 x6 x7 144 x9) else (portmanteauref10_One.j8 k x0 x1 x6 x7 x8 x9)
def portmanteauref10_One.j8 : Nat → ByteArray → Int → Int → Int → Int → Int → Option (Int × Int)
  | 0, _, _, _, _, _, _ => none
  | k + 1, x0, x1, x6, x7, x8, x9 => if x6 = 244 then (portmanteauref10_One.j9 k x0 x1 x6 x7 x8 143) else (portmanteauref10_One.j9 k x0 x1 x6 x7 x8 x9)
def portmanteauref10_One.j9 : Nat → ByteArray → Int → Int → Int → Int → Int → Option (Int × Int)
  | 0, _, _, _, _, _, _ => none
  | k + 1, x0, x1, x6, x7, x8, x9 => if x7 = 0 then (portmanteauref10_One.j10 k x0 x1 x6 x7 true) else ((portmanteauref10_within.f x0 (wrap64 (x1 + 1)) x8 x9).bind fun t152 => (if t152 = true then (if x7 > 1 then ((portmanteauref10_within.f x0 (wrap64 (x1 + 2)) 128 191).bind fun t153 => (if t153 = true then (if x7 > 2 then ((portmanteauref10_within.f x0 (wrap64 (x1 + 3)) 128 191).bind fun t154 => (portmanteauref10_One.j10 k x0 x1 x6 x7 (!t154))) else (portmanteauref10_One.j10 k x0 x1 x6 x7 false)) else (portmanteauref10_One.j10 k x0 x1 x6 x7 true))) else (if x7 > 2 then ((portmanteauref10_within.f x0 (wrap64 (x1 + 3)) 128 191).bind fun t155 => (portmanteauref10_One.j10 k x0 x1 x6 x7 (!t155))) else (portmanteauref10_One.j10 k x0 x1 x6 x7 false))) else (portmanteauref10_One.j10 k x0 x1 x6 x7 true)))
def portmanteauref10_One.j10 : Nat → ByteArray → Int → Int → Int → Bool → Option (Int × Int)
  | 0, _, _, _, _, _ => none
  | k + 1, x0, x1, x6, x7, x77 => if x77 = true then (some ((-1), 1)) else (if x7 = 2 then (portmanteauref10_One.j11 k x0 x1 x6 x7 (Int.tmod (wrap64 (x6)) 16)) else (portmanteauref10_One.j11 k x0 x1 x6 x7 (Int.tmod (wrap64 (x6)) 32)))
def portmanteauref10_One.j11 : Nat → ByteArray → Int → Int → Int → Int → Option (Int × Int)
  | 0, _, _, _, _, _ => none
  | k + 1, x0, x1, x6, x7, x10 => if x7 = 3 then (portmanteauref10_One.j12 k x0 x1 x7 (Int.tmod (wrap64 (x6)) 8)) else (portmanteauref10_One.j12 k x0 x1 x7 x10)
def portmanteauref10_One.j12 : Nat → ByteArray → Int → Int → Int → Option (Int × Int)
  | 0, _, _, _, _ => none
  | k + 1, x0, x1, x7, x10 => portmanteauref10_One.l0 k x0 x1 x7 x10 1
def portmanteauref10_One.l0 : Nat → ByteArray → Int → Int → Int → Int → Option (Int × Int)
  | 0, _, _, _, _, _ => none
  | k + 1, x0, x1, x7, x10, x11 => if x11 ≤ x7 then (if 0 ≤ (wrap64 (x1 + x11)) then (if (wrap64 (x1 + x11)) < (x0.size : Int) then (portmanteauref10_One.l0 k x0 x1 x7 (wrap64 ((wrap64 (x10 * 64)) + (Int.tmod (wrap64 (bt x0 (wrap64 (x1 + x11)))) 64))) (wrap64 (x11 + 1))) else (none)) else (none)) else (some (x10, wrap64 (x7 + 1)))
end
def portmanteauref10_One.f (k : Nat) (a0 : ByteArray) (a1 : Int) : Option (Int × Int) := if 0 ≤ a1 then (if a1 < (a0.size : Int) then (if (bt a0 a1) < 128 then (some (wrap64 (bt a0 a1), 1)) else (if (bt a0 a1) ≥ 194 then (portmanteauref10_One.j0 k a0 a1 (bt a0 a1) 0 128 191 (decide ((bt a0 a1) ≤ 223))) else (portmanteauref10_One.j0 k a0 a1 (bt a0 a1) 0 128 191 false))) else (none)) else (none)
theorem portmanteauref10_One.mono_l : ∀ k, (∀ y0 y1 y2 y3 y4 y5 y6, LeO (portmanteauref10_One.j0 k y0 y1 y2 y3 y4 y5 y6) (portmanteauref10_One.j0 (k + 1) y0 y1 y2 y3 y4 y5 y6)) ∧ (∀ y0 y1 y2 y3 y4 y5, LeO (portmanteauref10_One.j1 k y0 y1 y2 y3 y4 y5) (portmanteauref10_One.j1 (k + 1) y0 y1 y2 y3 y4 y5)) ∧ (∀ y0 y1 y2 y3 y4 y5 y6, LeO (portmanteauref10_One.j2 k y0 y1 y2 y3 y4 y5 y6) (portmanteauref10_One.j2 (k + 1) y0 y1 y2 y3 y4 y5 y6)) ∧ (∀ y0 y1 y2 y3 y4 y5, LeO (portmanteauref10_One.j3 k y0 y1 y2 y3 y4 y5) (portmanteauref10_One.j3 (k + 1) y0 y1 y2 y3 y4 y5)) ∧ (∀ y0 y1 y2 y3 y4 y5 y6, LeO (portmanteauref10_One.j4 k y0 y1 y2 y3 y4 y5 y6) (portmanteauref10_One.j4 (k + 1) y0 y1 y2 y3 y4 y5 y6)) ∧ (∀ y0 y1 y2 y3 y4 y5, LeO (portmanteauref10_One.j5 k y0 y1 y2 y3 y4 y5) (portmanteauref10_One.j5 (k + 1) y0 y1 y2 y3 y4 y5)) ∧ (∀ y0 y1 y2 y3 y4 y5, LeO (portmanteauref10_One.j6 k y0 y1 y2 y3 y4 y5) (portmanteauref10_One.j6 (k + 1) y0 y1 y2 y3 y4 y5)) ∧ (∀ y0 y1 y2 y3 y4 y5, LeO (portmanteauref10_One.j7 k y0 y1 y2 y3 y4 y5) (portmanteauref10_One.j7 (k + 1) y0 y1 y2 y3 y4 y5)) ∧ (∀ y0 y1 y2 y3 y4 y5, LeO (portmanteauref10_One.j8 k y0 y1 y2 y3 y4 y5) (portmanteauref10_One.j8 (k + 1) y0 y1 y2 y3 y4 y5)) ∧ (∀ y0 y1 y2 y3 y4 y5, LeO (portmanteauref10_One.j9 k y0 y1 y2 y3 y4 y5) (portmanteauref10_One.j9 (k + 1) y0 y1 y2 y3 y4 y5)) ∧ (∀ y0 y1 y2 y3 y4, LeO (portmanteauref10_One.j10 k y0 y1 y2 y3 y4) (portmanteauref10_One.j10 (k + 1) y0 y1 y2 y3 y4)) ∧ (∀ y0 y1 y2 y3 y4, LeO (portmanteauref10_One.j11 k y0 y1 y2 y3 y4) (portmanteauref10_One.j11 (k + 1) y0 y1 y2 y3 y4)) ∧ (∀ y0 y1 y2 y3, LeO (portmanteauref10_One.j12 k y0 y1 y2 y3) (portmanteauref10_One.j12 (k + 1) y0 y1 y2 y3)) ∧ (∀ y0 y1 y2 y3 y4, LeO (portmanteauref10_One.l0 k y0 y1 y2 y3 y4) (portmanteauref10_One.l0 (k + 1) y0 y1 y2 y3 y4))
  | 0 => ⟨fun _ _ _ _ _ _ _ r h => by simp [portmanteauref10_One.j0] at h, fun _ _ _ _ _ _ r h => by simp [portmanteauref10_One.j1] at h, fun _ _ _ _ _ _ _ r h => by simp [portmanteauref10_One.j2] at h, fun _ _ _ _ _ _ r h => by simp [portmanteauref10_One.j3] at h, fun _ _ _ _ _ _ _ r h => by simp [portmanteauref10_One.j4] at h, fun _ _ _ _ _ _ r h => by simp [portmanteauref10_One.j5] at h, fun _ _ _ _ _ _ r h => by simp [portmanteauref10_One.j6] at h, fun _ _ _ _ _ _ r h => by simp [portmanteauref10_One.j7] at h, fun _ _ _ _ _ _ r h => by simp [portmanteauref10_One.j8] at h, fun _ _ _ _ _ _ r h => by simp [portmanteauref10_One.j9] at h, fun _ _ _ _ _ r h => by simp [portmanteauref10_One.j10] at h, fun _ _ _ _ _ r h => by simp [portmanteauref10_One.j11] at h, fun _ _ _ _ r h => by simp [portmanteauref10_One.j12] at h, fun _ _ _ _ _ r h => by simp [portmanteauref10_One.l0] at h⟩
  | k + 1 => by
    obtain ⟨ih0, ih1, ih2, ih3, ih4, ih5, ih6, ih7, ih8, ih9, ih10, ih11, ih12, ih13⟩ := portmanteauref10_One.mono_l k
    refine ⟨?_, ?_, ?_, ?_, ?_, ?_, ?_, ?_, ?_, ?_, ?_, ?_, ?_, ?_⟩
    · intro y0 y1 y2 y3 y4 y5 y6
      unfold portmanteauref10_One.j0
      repeat' first
      | (with_reducible exact ih0 _ _ _ _ _ _ _)
      | (with_reducible exact ih1 _ _ _ _ _ _)
      | (with_reducible exact ih2 _ _ _ _ _ _ _)
      | (with_reducible exact ih3 _ _ _ _ _ _)
      | (with_reducible exact ih4 _ _ _ _ _ _ _)
      | (with_reducible exact ih5 _ _ _ _ _ _)
      | (with_reducible exact ih6 _ _ _ _ _ _)
      | (with_reducible exact ih7 _ _ _ _ _ _)
      | (with_reducible exact ih8 _ _ _ _ _ _)
      | (with_reducible exact ih9 _ _ _ _ _ _)
      | (with_reducible exact ih10 _ _ _ _ _)
      | (with_reducible exact ih11 _ _ _ _ _)
      | (with_reducible exact ih12 _ _ _ _)
      | (with_reducible exact ih13 _ _ _ _ _)
      | (with_reducible exact LeO.refl _)
      | (with_reducible exact LeO.none _)
      | (with_reducible refine LeO.ite ?_ ?_)
      | (with_reducible refine LeO.bind ?_ (fun _ => ?_))
      | exact ih0 _ _ _ _ _ _ _
      | exact ih1 _ _ _ _ _ _
      | exact ih2 _ _ _ _ _ _ _
      | exact ih3 _ _ _ _ _ _
      | exact ih4 _ _ _ _ _ _ _
      | exact ih5 _ _ _ _ _ _
      | exact ih6 _ _ _ _ _ _
      | exact ih7 _ _ _ _ _ _
      | exact ih8 _ _ _ _ _ _
      | exact ih9 _ _ _ _ _ _
      | exact ih10 _ _ _ _ _
      | exact ih11 _ _ _ _ _
      | exact ih12 _ _ _ _
      | exact ih13 _ _ _ _ _
      | exact LeO.none _
      | refine LeO.ite ?_ ?_
      | refine LeO.bind ?_ (fun _ => ?_)
    · intro y0 y1 y2 y3 y4 y5
      unfold portmanteauref10_One.j1
      repeat' first
      | (with_reducible exact ih0 _ _ _ _ _ _ _)
      | (with_reducible exact ih1 _ _ _ _ _ _)
      | (with_reducible exact ih2 _ _ _ _ _ _ _)
      | (with_reducible exact ih3 _ _ _ _ _ _)
      | (with_reducible exact ih4 _ _ _ _ _ _ _)
      | (with_reducible exact ih5 _ _ _ _ _ _)
      | (with_reducible exact ih6 _ _ _ _ _ _)
      | (with_reducible exact ih7 _ _ _ _ _ _)
      | (with_reducible exact ih8 _ _ _ _ _ _)
      | (with_reducible exact ih9 _ _ _ _ _ _)
      | (with_reducible exact ih10 _ _ _ _ _)
      | (with_reducible exact ih11 _ _ _ _ _)
      | (with_reducible exact ih12 _ _ _ _)
      | (with_reducible exact ih13 _ _ _ _ _)
      | (with_reducible exact LeO.refl _)
      | (with_reducible exact LeO.none _)
      | (with_reducible refine LeO.ite ?_ ?_)
      | (with_reducible refine LeO.bind ?_ (fun _ => ?_))
      | exact ih0 _ _ _ _ _ _ _
      | exact ih1 _ _ _ _ _ _
      | exact ih2 _ _ _ _ _ _ _
      | exact ih3 _ _ _ _ _ _
      | exact ih4 _ _ _ _ _ _ _
      | exact ih5 _ _ _ _ _ _
      | exact ih6 _ _ _ _ _ _
      | exact ih7 _ _ _ _ _ _
      | exact ih8 _ _ _ _ _ _
      | exact ih9 _ _ _ _ _ _
      | exact ih10 _ _ _ _ _
      | exact ih11 _ _ _ _ _
      | exact ih12 _ _ _ _
      | exact ih13 _ _ _ _ _
      | exact LeO.none _
      | refine LeO.ite ?_ ?_
      | refine LeO.bind ?_ (fun _ => ?_)
    · intro y0 y1 y2 y3 y4 y5 y6
      unfold portmanteauref10_One.j2
      repeat' first
      | (with_reducible exact ih0 _ _ _ _ _ _ _)
      | (with_reducible exact ih1 _ _ _ _ _ _)
      | (with_reducible exact ih2 _ _ _ _ _ _ _)
      | (with_reducible exact ih3 _ _ _ _ _ _)
      | (with_reducible exact ih4 _ _ _ _ _ _ _)
      | (with_reducible exact ih5 _ _ _ _ _ _)
      | (with_reducible exact ih6 _ _ _ _ _ _)
      | (with_reducible exact ih7 _ _ _ _ _ _)
      | (with_reducible exact ih8 _ _ _ _ _ _)
      | (with_reducible exact ih9 _ _ _ _ _ _)
      | (with_reducible exact ih10 _ _ _ _ _)
      | (with_reducible exact ih11 _ _ _ _ _)
      | (with_reducible exact ih12 _ _ _ _)
      | (with_reducible exact ih13 _ _ _ _ _)
      | (with_reducible exact LeO.refl _)
      | (with_reducible exact LeO.none _)
      | (with_reducible refine LeO.ite ?_ ?_)
      | (with_reducible refine LeO.bind ?_ (fun _ => ?_))
      | exact ih0 _ _ _ _ _ _ _
      | exact ih1 _ _ _ _ _ _
      | exact ih2 _ _ _ _ _ _ _
      | exact ih3 _ _ _ _ _ _
      | exact ih4 _ _ _ _ _ _ _
      | exact ih5 _ _ _ _ _ _
      | exact ih6 _ _ _ _ _ _
      | exact ih7 _ _ _ _ _ _
      | exact ih8 _ _ _ _ _ _
      | exact ih9 _ _ _ _ _ _
      | exact ih10 _ _ _ _ _
      | exact ih11 _ _ _ _ _
      | exact ih12 _ _ _ _
      | exact ih13 _ _ _ _ _
      | exact LeO.none _
      | refine LeO.ite ?_ ?_
      | refine LeO.bind ?_ (fun _ => ?_)
    · intro y0 y1 y2 y3 y4 y5
      unfold portmanteauref10_One.j3
      repeat' first
      | (with_reducible exact ih0 _ _ _ _ _ _ _)
      | (with_reducible exact ih1 _ _ _ _ _ _)
      | (with_reducible exact ih2 _ _ _ _ _ _ _)
      | (with_reducible exact ih3 _ _ _ _ _ _)
      | (with_reducible exact ih4 _ _ _ _ _ _ _)
      | (with_reducible exact ih5 _ _ _ _ _ _)
      | (with_reducible exact ih6 _ _ _ _ _ _)
      | (with_reducible exact ih7 _ _ _ _ _ _)
      | (with_reducible exact ih8 _ _ _ _ _ _)
      | (with_reducible exact ih9 _ _ _ _ _ _)
      | (with_reducible exact ih10 _ _ _ _ _)
      | (with_reducible exact ih11 _ _ _ _ _)
      | (with_reducible exact ih12 _ _ _ _)
      | (with_reducible exact ih13 _ _ _ _ _)
      | (with_reducible exact LeO.refl _)
      | (with_reducible exact LeO.none _)
      | (with_reducible refine LeO.ite ?_ ?_)
      | (with_reducible refine LeO.bind ?_ (fun _ => ?_))
      | exact ih0 _ _ _ _ _ _ _
      | exact ih1 _ _ _ _ _ _
      | exact ih2 _ _ _ _ _ _ _
      | exact ih3 _ _ _ _ _ _
      | exact ih4 _ _ _ _ _ _ _
      | exact ih5 _ _ _ _ _ _
      | exact ih6 _ _ _ _ _ _
      | exact ih7 _ _ _ _ _ _
      | exact ih8 _ _ _ _ _ _
      | exact ih9 _ _ _ _ _ _
      | exact ih10 _ _ _ _ _
      | exact ih11 _ _ _ _ _
      | exact ih12 _ _ _ _
      | exact ih13 _ _ _ _ _
      | exact LeO.none _
      | refine LeO.ite ?_ ?_
      | refine LeO.bind ?_ (fun _ => ?_)
    · intro y0 y1 y2 y3 y4 y5 y6
      unfold portmanteauref10_One.j4
      repeat' first
      | (with_reducible exact ih0 _ _ _ _ _ _ _)
      | (with_reducible exact ih1 _ _ _ _ _ _)
      | (with_reducible exact ih2 _ _ _ _ _ _ _)
      | (with_reducible exact ih3 _ _ _ _ _ _)
      | (with_reducible exact ih4 _ _ _ _ _ _ _)
      | (with_reducible exact ih5 _ _ _ _ _ _)
      | (with_reducible exact ih6 _ _ _ _ _ _)
      | (with_reducible exact ih7 _ _ _ _ _ _)
      | (with_reducible exact ih8 _ _ _ _ _ _)
      | (with_reducible exact ih9 _ _ _ _ _ _)
      | (with_reducible exact ih10 _ _ _ _ _)
      | (with_reducible exact ih11 _ _ _ _ _)
      | (with_reducible exact ih12 _ _ _ _)
      | (with_reducible exact ih13 _ _ _ _ _)
      | (with_reducible exact LeO.refl _)
      | (with_reducible exact LeO.none _)
      | (with_reducible refine LeO.ite ?_ ?_)
      | (with_reducible refine LeO.bind ?_ (fun _ => ?_))
      | exact ih0 _ _ _ _ _ _ _
      | exact ih1 _ _ _ _ _ _
      | exact ih2 _ _ _ _ _ _ _
      | exact ih3 _ _ _ _ _ _
      | exact ih4 _ _ _ _ _ _ _
      | exact ih5 _ _ _ _ _ _
      | exact ih6 _ _ _ _ _ _
      | exact ih7 _ _ _ _ _ _
      | exact ih8 _ _ _ _ _ _
      | exact ih9 _ _ _ _ _ _
      | exact ih10 _ _ _ _ _
      | exact ih11 _ _ _ _ _
      | exact ih12 _ _ _ _
      | exact ih13 _ _ _ _ _
      | exact LeO.none _
      | refine LeO.ite ?_ ?_
      | refine LeO.bind ?_ (fun _ => ?_)
    · intro y0 y1 y2 y3 y4 y5
      unfold portmanteauref10_One.j5
      repeat' first
      | (with_reducible exact ih0 _ _ _ _ _ _ _)
      | (with_reducible exact ih1 _ _ _ _ _ _)
      | (with_reducible exact ih2 _ _ _ _ _ _ _)
      | (with_reducible exact ih3 _ _ _ _ _ _)
      | (with_reducible exact ih4 _ _ _ _ _ _ _)
      | (with_reducible exact ih5 _ _ _ _ _ _)
      | (with_reducible exact ih6 _ _ _ _ _ _)
      | (with_reducible exact ih7 _ _ _ _ _ _)
      | (with_reducible exact ih8 _ _ _ _ _ _)
      | (with_reducible exact ih9 _ _ _ _ _ _)
      | (with_reducible exact ih10 _ _ _ _ _)
      | (with_reducible exact ih11 _ _ _ _ _)
      | (with_reducible exact ih12 _ _ _ _)
      | (with_reducible exact ih13 _ _ _ _ _)
      | (with_reducible exact LeO.refl _)
      | (with_reducible exact LeO.none _)
      | (with_reducible refine LeO.ite ?_ ?_)
      | (with_reducible refine LeO.bind ?_ (fun _ => ?_))
      | exact ih0 _ _ _ _ _ _ _
      | exact ih1 _ _ _ _ _ _
      | exact ih2 _ _ _ _ _ _ _
      | exact ih3 _ _ _ _ _ _
      | exact ih4 _ _ _ _ _ _ _
      | exact ih5 _ _ _ _ _ _
      | exact ih6 _ _ _ _ _ _
      | exact ih7 _ _ _ _ _ _
      | exact ih8 _ _ _ _ _ _
      | exact ih9 _ _ _ _ _ _
      | exact ih10 _ _ _ _ _
      | exact ih11 _ _ _ _ _
      | exact ih12 _ _ _ _
      | exact ih13 _ _ _ _ _
      | exact LeO.none _
      | refine LeO.ite ?_ ?_
      | refine LeO.bind ?_ (fun _ => ?_)
    · intro y0 y1 y2 y3 y4 y5
      unfold portmanteauref10_One.j6
      repeat' first
      | (with_reducible exact ih0 _ _ _ _ _ _ _)
      | (with_reducible exact ih1 _ _ _ _ _ _)
      | (with_reducible exact ih2 _ _ _ _ _ _ _)
      | (with_reducible exact ih3 _ _ _ _ _ _)
      | (with_reducible exact ih4 _ _ _ _ _ _ _)
      | (with_reducible exact ih5 _ _ _ _ _ _)
      | (with_reducible exact ih6 _ _ _ _ _ _)
      | (with_reducible exact ih7 _ _ _ _ _ _)
      | (with_reducible exact ih8 _ _ _ _ _ _)
      | (with_reducible exact ih9 _ _ _ _ _ _)
      | (with_reducible exact ih10 _ _ _ _ _)
      | (with_reducible exact ih11 _ _ _ _ _)
      | (with_reducible exact ih12 _ _ _ _)
      | (with_reducible exact ih13 _ _ _ _ _)
      | (with_reducible exact LeO.refl _)
      | (with_reducible exact LeO.none _)
      | (with_reducible refine LeO.ite ?_ ?_)
      | (with_reducible refine LeO.bind ?_ (fun _ => ?_))
      | exact ih0 _ _ _ _ _ _ _
      | exact ih1 _ _ _ _ _ _
      | exact ih2 _ _ _ _ _ _ _
      | exact ih3 _ _ _ _ _ _
      | exact ih4 _ _ _ _ _ _ _
      | exact ih5 _ _ _ _ _ _
      | exact ih6 _ _ _ _ _ _
      | exact ih7 _ _ _ _ _ _
      | exact ih8 _ _ _ _ _ _
      | exact ih9 _ _ _ _ _ _
      | exact ih10 _ _ _ _ _
      | exact ih11 _ _ _ _ _
      | exact ih12 _ _ _ _
      | exact ih13 _ _ _ _ _
      | exact LeO.none _
      | refine LeO.ite ?_ ?_
      | refine LeO.bind ?_ (fun _ => ?_)
    · intro y0 y1 y2 y3 y4 y5
      unfold portmanteauref10_One.j7
      repeat' first
      | (with_reducible exact ih0 _ _ _ _ _ _ _)
      | (with_reducible exact ih1 _ _ _ _ _ _)
      | (with_reducible exact ih2 _ _ _ _ _ _ _)
      | (with_reducible exact ih3 _ _ _ _ _ _)
      | (with_reducible exact ih4 _ _ _ _ _ _ _)
      | (with_reducible exact ih5 _ _ _ _ _ _)
      | (with_reducible exact ih6 _ _ _ _ _ _)
      | (with_reducible exact ih7 _ _ _ _ _ _)
      | (with_reducible exact ih8 _ _ _ _ _ _)
      | (with_reducible exact ih9 _ _ _ _ _ _)
      | (with_reducible exact ih10 _ _ _ _ _)
      | (with_reducible exact ih11 _ _ _ _ _)
      | (with_reducible exact ih12 _ _ _ _)
      | (with_reducible exact ih13 _ _ _ _ _)
      | (with_reducible exact LeO.refl _)
      | (with_reducible exact LeO.none _)
      | (with_reducible refine LeO.ite ?_ ?_)
      | (with_reducible refine LeO.bind ?_ (fun _ => ?_))
      | exact ih0 _ _ _ _ _ _ _
      | exact ih1 _ _ _ _ _ _
      | exact ih2 _ _ _ _ _ _ _
      | exact ih3 _ _ _ _ _ _
      | exact ih4 _ _ _ _ _ _ _
      | exact ih5 _ _ _ _ _ _
      | exact ih6 _ _ _ _ _ _
      | exact ih7 _ _ _ _ _ _
      | exact ih8 _ _ _ _ _ _
      | exact ih9 _ _ _ _ _ _
      | exact ih10 _ _ _ _ _
      | exact ih11 _ _ _ _ _
      | exact ih12 _ _ _ _
      | exact ih13 _ _ _ _ _
      | exact LeO.none _
      | refine LeO.ite ?_ ?_
      | refine LeO.bind ?_ (fun _ => ?_)
    · intro y0 y1 y2 y3 y4 y5
      unfold portmanteauref10_One.j8
      repeat' first
      | (with_reducible exact ih0 _ _ _ _ _ _ _)
      | (with_reducible exact ih1 _ _ _ _ _ _)
      | (with_reducible exact ih2 _ _ _ _ _ _ _)
      | (with_reducible exact ih3 _ _ _ _ _ _)
      | (with_reducible exact ih4 _ _ _ _ _ _ _)
      | (with_reducible exact ih5 _ _ _ _ _ _)
      | (with_reducible exact ih6 _ _ _ _ _ _)
      | (with_reducible exact ih7 _ _ _ _ _ _)
      | (with_reducible exact ih8 _ _ _ _ _ _)
      | (with_reducible exact ih9 _ _ _ _ _ _)
      | (with_reducible exact ih10 _ _ _ _ _)
      | (with_reducible exact ih11 _ _ _ _ _)
      | (with_reducible exact ih12 _ _ _ _)
      | (with_reducible exact ih13 _ _ _ _ _)
      | (with_reducible exact LeO.refl _)
      | (with_reducible exact LeO.none _)
      | (with_reducible refine LeO.ite ?_ ?_)
      | (with_reducible refine LeO.bind ?_ (fun _ => ?_))
      | exact ih0 _ _ _ _ _ _ _
      | exact ih1 _ _ _ _ _ _
      | exact ih2 _ _ _ _ _ _ _
      | exact ih3 _ _ _ _ _ _
      | exact ih4 _ _ _ _ _ _ _
      | exact ih5 _ _ _ _ _ _
      | exact ih6 _ _ _ _ _ _
      | exact ih7 _ _ _ _ _ _
      | exact ih8 _ _ _ _ _ _
      | exact ih9 _ _ _ _ _ _
      | exact ih10 _ _ _ _ _
      | exact ih11 _ _ _ _ _
      | exact ih12 _ _ _ _
      | exact ih13 _ _ _ _ _
      | exact LeO.none _
      | refine LeO.ite ?_ ?_
      | refine LeO.bind ?_ (fun _ => ?_)
    · intro y0 y1 y2 y3 y4 y5
      unfold portmanteauref10_One.j9
      repeat' first
      | (with_reducible exact ih0 _ _ _ _ _ _ _)
      | (with_reducible exact ih1 _ _ _ _ _ _)
      | (with_reducible exact ih2 _ _ _ _ _ _ _)
      | (with_reducible exact ih3 _ _ _ _ _ _)
      | (with_reducible exact ih4 _ _ _ _ _ _ _)
      | (with_reducible exact ih5 _ _ _ _ _ _)
      | (with_reducible exact ih6 _ _ _ _ _ _)
      | (with_reducible exact ih7 _ _ _ _ _ _)
      | (with_reducible exact ih8 _ _ _ _ _ _)
      | (with_reducible exact ih9 _ _ _ _ _ _)
      | (with_reducible exact ih10 _ _ _ _ _)
      | (with_reducible exact ih11 _ _ _ _ _)
      | (with_reducible exact ih12 _ _ _ _)
      | (with_reducible exact ih13 _ _ _ _ _)
      | (with_reducible exact LeO.refl _)
      | (with_reducible exact LeO.none _)
      | (with_reducible refine LeO.ite ?_ ?_)
      | (with_reducible refine LeO.bind ?_ (fun _ => ?_))
      | exact ih0 _ _ _ _ _ _ _
      | exact ih1 _ _ _ _ _ _
      | exact ih2 _ _ _ _ _ _ _
      | exact ih3 _ _ _ _ _ _
      | exact ih4 _ _ _ _ _ _ _
      | exact ih5 _ _ _ _ _ _
      | exact ih6 _ _ _ _ _ _
      | exact ih7 _ _ _ _ _ _
      | exact ih8 _ _ _ _ _ _
      | exact ih9 _ _ _ _ _ _
      | exact ih10 _ _ _ _ _
      | exact ih11 _ _ _ _ _
      | exact ih12 _ _ _ _
      | exact ih13 _ _ _ _ _
      | exact LeO.none _
      | refine LeO.ite ?_ ?_
      | refine LeO.bind ?_ (fun _ => ?_)
    · intro y0 y1 y2 y3 y4
      unfold portmanteauref10_One.j10
      repeat' first
      | (with_reducible exact ih0 _ _ _ _ _ _ _)
      | (with_reducible exact ih1 _ _ _ _ _ _)
      | (with_reducible exact ih2 _ _ _ _ _ _ _)
      | (with_reducible exact ih3 _ _ _ _ _ _)
      | (with_reducible exact ih4 _ _ _ _ _ _ _)
      | (with_reducible exact ih5 _ _ _ _ _ _)
      | (with_reducible exact ih6 _ _ _ _ _ _)
      | (with_reducible exact ih7 _ _ _ _ _ _)
      | (with_reducible exact ih8 _ _ _ _ _ _)
      | (with_reducible exact ih9 _ _ _ _ _ _)
      | (with_reducible exact ih10 _ _ _ _ _)
      | (with_reducible exact ih11 _ _ _ _ _)
      | (with_reducible exact ih12 _ _ _ _)
      | (with_reducible exact ih13 _ _ _ _ _)
      | (with_reducible exact LeO.refl _)
      | (with_reducible exact LeO.none _)
      | (with_reducible refine LeO.ite ?_ ?_)
      | (with_reducible refine LeO.bind ?_ (fun _ => ?_))
      | exact ih0 _ _ _ _ _ _ _
      | exact ih1 _ _ _ _ _ _
      | exact ih2 _ _ _ _ _ _ _
      | exact ih3 _ _ _ _ _ _
      | exact ih4 _ _ _ _ _ _ _
      | exact ih5 _ _ _ _ _ _
      | exact ih6 _ _ _ _ _ _
      | exact ih7 _ _ _ _ _ _
      | exact ih8 _ _ _ _ _ _
      | exact ih9 _ _ _ _ _ _
      | exact ih10 _ _ _ _ _
      | exact ih11 _ _ _ _ _
      | exact ih12 _ _ _ _
      | exact ih13 _ _ _ _ _
      | exact LeO.none _
      | refine LeO.ite ?_ ?_
      | refine LeO.bind ?_ (fun _ => ?_)
    · intro y0 y1 y2 y3 y4
      unfold portmanteauref10_One.j11
      repeat' first
      | (with_reducible exact ih0 _ _ _ _ _ _ _)
      | (with_reducible exact ih1 _ _ _ _ _ _)
      | (with_reducible exact ih2 _ _ _ _ _ _ _)
      | (with_reducible exact ih3 _ _ _ _ _ _)
      | (with_reducible exact ih4 _ _ _ _ _ _ _)
      | (with_reducible exact ih5 _ _ _ _ _ _)
      | (with_reducible exact ih6 _ _ _ _ _ _)
      | (with_reducible exact ih7 _ _ _ _ _ _)
      | (with_reducible exact ih8 _ _ _ _ _ _)
      | (with_reducible exact ih9 _ _ _ _ _ _)
      | (with_reducible exact ih10 _ _ _ _ _)
      | (with_reducible exact ih11 _ _ _ _ _)
      | (with_reducible exact ih12 _ _ _ _)
      | (with_reducible exact ih13 _ _ _ _ _)
      | (with_reducible exact LeO.refl _)
      | (with_reducible exact LeO.none _)
      | (with_reducible refine LeO.ite ?_ ?_)
      | (with_reducible refine LeO.bind ?_ (fun _ => ?_))
      | exact ih0 _ _ _ _ _ _ _
      | exact ih1 _ _ _ _ _ _
      | exact ih2 _ _ _ _ _ _ _
      | exact ih3 _ _ _ _ _ _
      | exact ih4 _ _ _ _ _ _ _
      | exact ih5 _ _ _ _ _ _
      | exact ih6 _ _ _ _ _ _
      | exact ih7 _ _ _ _ _ _
      | exact ih8 _ _ _ _ _ _
      | exact ih9 _ _ _ _ _ _
      | exact ih10 _ _ _ _ _
      | exact ih11 _ _ _ _ _
      | exact ih12 _ _ _ _
      | exact ih13 _ _ _ _ _
      | exact LeO.none _
      | refine LeO.ite ?_ ?_
      | refine LeO.bind ?_ (fun _ => ?_)
    · intro y0 y1 y2 y3
      unfold portmanteauref10_One.j12
      repeat' first
      | (with_reducible exact ih0 _ _ _ _ _ _ _)
      | (with_reducible exact ih1 _ _ _ _ _ _)
      | (with_reducible exact ih2 _ _ _ _ _ _ _)
      | (with_reducible exact ih3 _ _ _ _ _ _)
      | (with_reducible exact ih4 _ _ _ _ _ _ _)
      | (with_reducible exact ih5 _ _ _ _ _ _)
      | (with_reducible exact ih6 _ _ _ _ _ _)
      | (with_reducible exact ih7 _ _ _ _ _ _)
      | (with_reducible exact ih8 _ _ _ _ _ _)
      | (with_reducible exact ih9 _ _ _ _ _ _)
      | (with_reducible exact ih10 _ _ _ _ _)
      | (with_reducible exact ih11 _ _ _ _ _)
      | (with_reducible exact ih12 _ _ _ _)
      | (with_reducible exact ih13 _ _ _ _ _)
      | (with_reducible exact LeO.refl _)
      | (with_reducible exact LeO.none _)
      | (with_reducible refine LeO.ite ?_ ?_)
      | (with_reducible refine LeO.bind ?_ (fun _ => ?_))
      | exact ih0 _ _ _ _ _ _ _
      | exact ih1 _ _ _ _ _ _
      | exact ih2 _ _ _ _ _ _ _
      | exact ih3 _ _ _ _ _ _
      | exact ih4 _ _ _ _ _ _ _
      | exact ih5 _ _ _ _ _ _
      | exact ih6 _ _ _ _ _ _
      | exact ih7 _ _ _ _ _ _
      | exact ih8 _ _ _ _ _ _
      | exact ih9 _ _ _ _ _ _
      | exact ih10 _ _ _ _ _
      | exact ih11 _ _ _ _ _
      | exact ih12 _ _ _ _
      | exact ih13 _ _ _ _ _
      | exact LeO.none _
      | refine LeO.ite ?_ ?_
      | refine LeO.bind ?_ (fun _ => ?_)
    · intro y0 y1 y2 y3 y4
      unfold portmanteauref10_One.l0
      repeat' first
      | (with_reducible exact ih0 _ _ _ _ _ _ _)
      | (with_reducible exact ih1 _ _ _ _ _ _)
      | (with_reducible exact ih2 _ _ _ _ _ _ _)
      | (with_reducible exact ih3 _ _ _ _ _ _)
      | (with_reducible exact ih4 _ _ _ _ _ _ _)
      | (with_reducible exact ih5 _ _ _ _ _ _)
      | (with_reducible exact ih6 _ _ _ _ _ _)
      | (with_reducible exact ih7 _ _ _ _ _ _)
      | (with_reducible exact ih8 _ _ _ _ _ _)
      | (with_reducible exact ih9 _ _ _ _ _ _)
      | (with_reducible exact ih10 _ _ _ _ _)
      | (with_reducible exact ih11 _ _ _ _ _)
      | (with_reducible exact ih12 _ _ _ _)
      | (with_reducible exact ih13 _ _ _ _ _)
      | (with_reducible exact LeO.refl _)
      | (with_reducible exact LeO.none _)
      | (with_reducible refine LeO.ite ?_ ?_)
      | (with_reducible refine LeO.bind ?_ (fun _ => ?_))
      | exact ih0 _ _ _ _ _ _ _
      | exact ih1 _ _ _ _ _ _
      | exact ih2 _ _ _ _ _ _ _
      | exact ih3 _ _ _ _ _ _
      | exact ih4 _ _ _ _ _ _ _
      | exact ih5 _ _ _ _ _ _
      | exact ih6 _ _ _ _ _ _
      | exact ih7 _ _ _ _ _ _
      | exact ih8 _ _ _ _ _ _
      | exact ih9 _ _ _ _ _ _
      | exact ih10 _ _ _ _ _
      | exact ih11 _ _ _ _ _
      | exact ih12 _ _ _ _
      | exact ih13 _ _ _ _ _
      | exact LeO.none _
      | refine LeO.ite ?_ ?_
      | refine LeO.bind ?_ (fun _ => ?_)
theorem portmanteauref10_One.mono : ∀ a0 a1 k, LeO (portmanteauref10_One.f k a0 a1) (portmanteauref10_One.f (k + 1) a0 a1) := by
  intro a0 a1 k
  obtain ⟨ih0, ih1, ih2, ih3, ih4, ih5, ih6, ih7, ih8, ih9, ih10, ih11, ih12, ih13⟩ := portmanteauref10_One.mono_l k
  unfold portmanteauref10_One.f
  repeat' first
      | (with_reducible exact ih0 _ _ _ _ _ _ _)
      | (with_reducible exact ih1 _ _ _ _ _ _)
      | (with_reducible exact ih2 _ _ _ _ _ _ _)
      | (with_reducible exact ih3 _ _ _ _ _ _)
      | (with_reducible exact ih4 _ _ _ _ _ _ _)
      | (with_reducible exact ih5 _ _ _ _ _ _)
      | (with_reducible exact ih6 _ _ _ _ _ _)
      | (with_reducible exact ih7 _ _ _ _ _ _)
      | (with_reducible exact ih8 _ _ _ _ _ _)
      | (with_reducible exact ih9 _ _ _ _ _ _)
      | (with_reducible exact ih10 _ _ _ _ _)
      | (with_reducible exact ih11 _ _ _ _ _)
      | (with_reducible exact ih12 _ _ _ _)
      | (with_reducible exact ih13 _ _ _ _ _)
      | (with_reducible exact LeO.refl _)
      | (with_reducible exact LeO.none _)
      | (with_reducible refine LeO.ite ?_ ?_)
      | (with_reducible refine LeO.bind ?_ (fun _ => ?_))
      | exact ih0 _ _ _ _ _ _ _
      | exact ih1 _ _ _ _ _ _
      | exact ih2 _ _ _ _ _ _ _
      | exact ih3 _ _ _ _ _ _
      | exact ih4 _ _ _ _ _ _ _
      | exact ih5 _ _ _ _ _ _
      | exact ih6 _ _ _ _ _ _
      | exact ih7 _ _ _ _ _ _
      | exact ih8 _ _ _ _ _ _
      | exact ih9 _ _ _ _ _ _
      | exact ih10 _ _ _ _ _
      | exact ih11 _ _ _ _ _
      | exact ih12 _ _ _ _
      | exact ih13 _ _ _ _ _
      | exact LeO.none _
      | refine LeO.ite ?_ ?_
      | refine LeO.bind ?_ (fun _ => ?_)
set_option maxHeartbeats 8000000 in
set_option maxRecDepth 100000 in
theorem portmanteauref10_One.calls (k : Nat) (a0 : ByteArray) (a1 : Int) (r1 : Int) (r2 : Int) (w : World) (h : portmanteauref10_One.f k a0 a1 = some (r1, r2)) :
    Calls Tryd.prog 32 #[.string a0, .int .i64 a1] w fun e w' => e = .returned (.tuple #[.int .i64 r1, .int .i64 r2]) ∧ Drawn0 w w' := by
  have H : (if 0 ≤ a1 then (if a1 < (a0.size : Int) then (if (bt a0 a1) < 128 then (some (wrap64 (bt a0 a1), 1)) else (if (bt a0 a1) ≥ 194 then (portmanteauref10_One.j0 k a0 a1 (bt a0 a1) 0 128 191 (decide ((bt a0 a1) ≤ 223))) else (portmanteauref10_One.j0 k a0 a1 (bt a0 a1) 0 128 191 false))) else (none)) else (none)) = some (r1, r2) := h
  clear h
  by_cases c3 : 0 ≤ a1
  · rw [if_pos c3] at H
    have c3b0 : decide (0 ≤ a1) = true := decide_eq_true c3
    clear c3
    by_cases c4 : a1 < (a0.size : Int)
    · rw [if_pos c4] at H
      have c4b0 : decide (a1 < (a0.size : Int)) = true := decide_eq_true c4
      clear c4
      by_cases c6 : (bt a0 a1) < 128
      · rw [if_pos c6] at H
        have c6b0 : decide ((bt a0 a1) < 128) = true := decide_eq_true c6
        clear c6
        simp only [Option.some.injEq, Prod.mk.injEq] at H
        obtain ⟨rfl, rfl⟩ := H
        have p5 : 0 ≤ (a1 : Int) := of_decide_eq_true (by first | (with_reducible assumption) | assumption)
        have q5 : a1 < (a0.size : Int) := of_decide_eq_true (by first | (with_reducible assumption) | assumption)
        have hx5 := bt_at a0 a1
        replace p5 := eq_true p5
        replace q5 := eq_true q5
        go_enter Tryd.func32, Tryd.ntmps32
        go_wp2
        go_ret2
        exact ⟨by first | rfl | (simp; done) | (simp [*]; done), by repeat (first | exact Drawn0.refl _ | apply Drawn0.step)⟩
      · rw [if_neg c6] at H
        have c6b0 : decide ((bt a0 a1) < 128) = false := decide_eq_false c6
        clear c6
        have HC7 := Aside0.mk H
        clear H
        have p5 : 0 ≤ (a1 : Int) := of_decide_eq_true (by first | (with_reducible assumption) | assumption)
        have q5 : a1 < (a0.size : Int) := of_decide_eq_true (by first | (with_reducible assumption) | assumption)
        have hx5 := bt_at a0 a1
        replace p5 := eq_true p5
        replace q5 := eq_true q5
        go_enter Tryd.func32, Tryd.ntmps32
        go_upto_region 6 with (fail)
        go_cut [24] (fun v24 wc => ∃ (kq : Nat) (x24_6 : Bool), v24 = .bool x24_6 ∧ Aside0 (portmanteauref10_One.j0 kq a0 a1 (bt a0 a1) 0 128 191 x24_6 = some (r1, r2)) ∧ Aside0 (kq ≤ k) ∧ Drawn0 w wc)
        case first =>
          have H := HC7.out
          clear HC7
          by_cases c8 : (bt a0 a1) ≥ 194
          · rw [if_pos c8] at H
            have c8b0 : decide (194 ≤ (bt a0 a1)) = true := decide_eq_true c8
            clear c8
            (first | rw [c8b0] | (simp only [i64_w, i32_w]; rw [c8b0]) | skip)
            have H' := Aside0.mk H
            clear H
            go_wp2
            go_meet
            case rel => exact ⟨_, (decide ((bt a0 a1) ≤ 223)), (by first | rfl | (simp; done) | (simp [*]; done)), H', ⟨by first | omega | exact Nat.le_refl _⟩, by repeat (first | exact Drawn0.refl _ | apply Drawn0.step)⟩
          · rw [if_neg c8] at H
            have c8b0 : decide (194 ≤ (bt a0 a1)) = false := decide_eq_false c8
            clear c8
            (first | rw [c8b0] | (simp only [i64_w, i32_w]; rw [c8b0]) | skip)
            have H' := Aside0.mk H
            clear H
            go_wp2
            go_meet
            case rel => exact ⟨_, (false), (by first | rfl | (simp; done) | (simp [*]; done)), H', ⟨by first | omega | exact Nat.le_refl _⟩, by repeat (first | exact Drawn0.refl _ | apply Drawn0.step)⟩
        case rest =>
          clear HC7
          try clear p2
          try clear c3
          try clear c3b0
          try clear c4
          try clear c4b0
          try clear p5
          try clear q5
          try clear hx5
          try clear c6
          try clear c6b0
          try clear p6
          try clear c8
          try clear c8b0
          try clear p5
          try clear q5
          obtain ⟨kq, x24_6, rfl, HA, HJ6, ⟨mc6, rfl⟩⟩ := hcut
          cases kq with
          | zero => exact absurd HA.out (by simp [portmanteauref10_One.j0])
          | succ kj6 =>
            have H := HA.out
            clear HA
            simp only [portmanteauref10_One.j0] at H
            have HC9 := Aside0.mk H
            clear H
            go_upto_if 24 with (fail)
            go_cut [7] (fun v7 wc => ∃ (kq : Nat) (x7_8 : Int), v7 = .int .i64 x7_8 ∧ Aside0 (portmanteauref10_One.j1 kq a0 a1 (bt a0 a1) x7_8 128 191 = some (r1, r2)) ∧ Aside0 (kq ≤ kj6) ∧ Drawn0 w wc)
            case first =>
              have H := HC9.out
              clear HC9
              by_cases c10 : x24_6 = true
              · subst c10
                have H1 : (portmanteauref10_One.j1 kj6 a0 a1 (bt a0 a1) 1 128 191) = some (r1, r2) := by rw [if_pos rfl] at H; exact H
                clear H
                have H := H1
                clear H1
                have H' := Aside0.mk H
                clear H
                go_wp2
                go_meet
                case rel => exact ⟨_, (1), (by first | rfl | (simp; done) | (simp [*]; done)), H', ⟨by have := HJ6.out; first | omega | exact Nat.le_refl _⟩, by repeat (first | exact Drawn0.refl _ | apply Drawn0.step)⟩
              · replace c10 := Bool.eq_false_iff.mpr c10
                subst c10
                have H1 : (portmanteauref10_One.j1 kj6 a0 a1 (bt a0 a1) 0 128 191) = some (r1, r2) := by rw [if_neg (show ¬ (false = true) by decide)] at H; exact H
                clear H
                have H := H1
                clear H1
                have H' := Aside0.mk H
                clear H
                go_wp2
                go_meet
                case rel => exact ⟨_, (0), (by first | rfl | (simp; done) | (simp [*]; done)), H', ⟨by have := HJ6.out; first | omega | exact Nat.le_refl _⟩, by repeat (first | exact Drawn0.refl _ | apply Drawn0.step)⟩
            case rest =>
              clear HC9
              try clear c1
              try clear p2
              try clear c3
              try clear c3b0
              try clear c4
              try clear c4b0
              try clear p5
              try clear q5
              try clear hx5
              try clear c6
              try clear c6b0
              try clear p6
              try clear c8
              try clear c8b0
              try clear c10
              try clear p2
              try clear p5
              try clear p6
              try clear q5
              obtain ⟨kq, x7_8, rfl, HA, HJ8, ⟨mc8, rfl⟩⟩ := hcut
              cases kq with
              | zero => exact absurd HA.out (by simp [portmanteauref10_One.j1])
              | succ kj8 =>
                have H := HA.out
                clear HA
                simp only [portmanteauref10_One.j1] at H
                have HC11 := Aside0.mk H
                clear H
                go_upto_region 8 with (fail)
                go_cut [30] (fun v30 wc => ∃ (kq : Nat) (x30_10 : Bool), v30 = .bool x30_10 ∧ Aside0 (portmanteauref10_One.j2 kq a0 a1 (bt a0 a1) x7_8 128 191 x30_10 = some (r1, r2)) ∧ Aside0 (kq ≤ kj8) ∧ Drawn0 w wc)
                case first =>
                  have H := HC11.out
                  clear HC11
                  by_cases c12 : (bt a0 a1) ≥ 224
                  · rw [if_pos c12] at H
                    have c12b0 : decide (224 ≤ (bt a0 a1)) = true := decide_eq_true c12
                    clear c12
                    (first | rw [c12b0] | (simp only [i64_w, i32_w]; rw [c12b0]) | skip)
                    have H' := Aside0.mk H
                    clear H
                    go_wp2
                    go_meet
                    case rel => exact ⟨_, (decide ((bt a0 a1) ≤ 239)), (by first | rfl | (simp; done) | (simp [*]; done)), H', ⟨by have := HJ6.out; have := HJ8.out; first | omega | exact Nat.le_refl _⟩, by repeat (first | exact Drawn0.refl _ | apply Drawn0.step)⟩
                  · rw [if_neg c12] at H
                    have c12b0 : decide (224 ≤ (bt a0 a1)) = false := decide_eq_false c12
                    clear c12
                    (first | rw [c12b0] | (simp only [i64_w, i32_w]; rw [c12b0]) | skip)
                    have H' := Aside0.mk H
                    clear H
                    go_wp2
                    go_meet
                    case rel => exact ⟨_, (false), (by first | rfl | (simp; done) | (simp [*]; done)), H', ⟨by have := HJ6.out; have := HJ8.out; first | omega | exact Nat.le_refl _⟩, by repeat (first | exact Drawn0.refl _ | apply Drawn0.step)⟩
                case rest =>
                  clear HC11
                  try clear c1
                  try clear p2
                  try clear c3
                  try clear c3b0
                  try clear c4
                  try clear c4b0
                  try clear p5
                  try clear q5
                  try clear hx5
                  try clear c6
                  try clear c6b0
                  try clear p6
                  try clear c8
                  try clear c8b0
                  try clear c10
                  try clear c12
                  try clear c12b0
                  try clear p2
                  try clear p5
                  try clear p6
                  try clear q5
                  obtain ⟨kq, x30_10, rfl, HA, HJ10, ⟨mc10, rfl⟩⟩ := hcut
                  cases kq with
                  | zero => exact absurd HA.out (by simp [portmanteauref10_One.j2])
                  | succ kj10 =>
                    have H := HA.out
                    clear HA
                    simp only [portmanteauref10_One.j2] at H
                    have HC13 := Aside0.mk H
                    clear H
                    go_upto_if 30 with (fail)
                    go_cut [7] (fun v7 wc => ∃ (kq : Nat) (x7_12 : Int), v7 = .int .i64 x7_12 ∧ Aside0 (portmanteauref10_One.j3 kq a0 a1 (bt a0 a1) x7_12 128 191 = some (r1, r2)) ∧ Aside0 (kq ≤ kj10) ∧ Drawn0 w wc)
                    case first =>
                      have H := HC13.out
                      clear HC13
                      by_cases c14 : x30_10 = true
                      · subst c14
                        have H1 : (portmanteauref10_One.j3 kj10 a0 a1 (bt a0 a1) 2 128 191) = some (r1, r2) := by rw [if_pos rfl] at H; exact H
                        clear H
                        have H := H1
                        clear H1
                        have H' := Aside0.mk H
                        clear H
                        go_wp2
                        go_meet
                        case rel => exact ⟨_, (2), (by first | rfl | (simp; done) | (simp [*]; done)), H', ⟨by have := HJ6.out; have := HJ8.out; have := HJ10.out; first | omega | exact Nat.le_refl _⟩, by repeat (first | exact Drawn0.refl _ | apply Drawn0.step)⟩
                      · replace c14 := Bool.eq_false_iff.mpr c14
                        subst c14
                        have H1 : (portmanteauref10_One.j3 kj10 a0 a1 (bt a0 a1) x7_8 128 191) = some (r1, r2) := by rw [if_neg (show ¬ (false = true) by decide)] at H; exact H
                        clear H
                        have H := H1
                        clear H1
                        have H' := Aside0.mk H
                        clear H
                        go_wp2
                        go_meet
                        case rel => exact ⟨_, (x7_8), (by first | rfl | (simp; done) | (simp [*]; done)), H', ⟨by have := HJ6.out; have := HJ8.out; have := HJ10.out; first | omega | exact Nat.le_refl _⟩, by repeat (first | exact Drawn0.refl _ | apply Drawn0.step)⟩
                    case rest =>
                      clear HC13
                      try clear c1
                      try clear p2
                      try clear c3
                      try clear c3b0
                      try clear c4
                      try clear c4b0
                      try clear p5
                      try clear q5
                      try clear hx5
                      try clear c6
                      try clear c6b0
                      try clear p6
                      try clear c8
                      try clear c8b0
                      try clear c10
                      try clear c12
                      try clear c12b0
                      try clear c14
                      try clear p2
                      try clear p5
                      try clear p6
                      try clear q5
                      obtain ⟨kq, x7_12, rfl, HA, HJ12, ⟨mc12, rfl⟩⟩ := hcut
                      cases kq with
                      | zero => exact absurd HA.out (by simp [portmanteauref10_One.j3])
                      | succ kj12 =>
                        have H := HA.out
                        clear HA
                        simp only [portmanteauref10_One.j3] at H
                        have HC15 := Aside0.mk H
                        clear H
                        go_upto_region 10 with (fail)
                        go_cut [36] (fun v36 wc => ∃ (kq : Nat) (x36_14 : Bool), v36 = .bool x36_14 ∧ Aside0 (portmanteauref10_One.j4 kq a0 a1 (bt a0 a1) x7_12 128 191 x36_14 = some (r1, r2)) ∧ Aside0 (kq ≤ kj12) ∧ Drawn0 w wc)
                        case first =>
                          have H := HC15.out
                          clear HC15
                          by_cases c16 : (bt a0 a1) ≥ 240
                          · rw [if_pos c16] at H
                            have c16b0 : decide (240 ≤ (bt a0 a1)) = true := decide_eq_true c16
                            clear c16
                            (first | rw [c16b0] | (simp only [i64_w, i32_w]; rw [c16b0]) | skip)
                            have H' := Aside0.mk H
                            clear H
                            go_wp2
                            go_meet
                            case rel => exact ⟨_, (decide ((bt a0 a1) ≤ 244)), (by first | rfl | (simp; done) | (simp [*]; done)), H', ⟨by have := HJ6.out; have := HJ8.out; have := HJ10.out; have := HJ12.out; first | omega | exact Nat.le_refl _⟩, by repeat (first | exact Drawn0.refl _ | apply Drawn0.step)⟩
                          · rw [if_neg c16] at H
                            have c16b0 : decide (240 ≤ (bt a0 a1)) = false := decide_eq_false c16
                            clear c16
                            (first | rw [c16b0] | (simp only [i64_w, i32_w]; rw [c16b0]) | skip)
                            have H' := Aside0.mk H
                            clear H
                            go_wp2
                            go_meet
                            case rel => exact ⟨_, (false), (by first | rfl | (simp; done) | (simp [*]; done)), H', ⟨by have := HJ6.out; have := HJ8.out; have := HJ10.out; have := HJ12.out; first | omega | exact Nat.le_refl _⟩, by repeat (first | exact Drawn0.refl _ | apply Drawn0.step)⟩
                        case rest =>
                          clear HC15
                          try clear c1
                          try clear p2
                          try clear c3
                          try clear c3b0
                          try clear c4
                          try clear c4b0
                          try clear p5
                          try clear q5
                          try clear hx5
                          try clear c6
                          try clear c6b0
                          try clear p6
                          try clear c8
                          try clear c8b0
                          try clear c10
                          try clear c12
                          try clear c12b0
                          try clear c14
                          try clear c16
                          try clear c16b0
                          try clear p2
                          try clear p5
                          try clear p6
                          try clear q5
                          obtain ⟨kq, x36_14, rfl, HA, HJ14, ⟨mc14, rfl⟩⟩ := hcut
                          cases kq with
                          | zero => exact absurd HA.out (by simp [portmanteauref10_One.j4])
                          | succ kj14 =>
                            have H := HA.out
                            clear HA
                            simp only [portmanteauref10_One.j4] at H
                            have HC17 := Aside0.mk H
                            clear H
                            go_upto_if 36 with (fail)
                            go_cut [7] (fun v7 wc => ∃ (kq : Nat) (x7_16 : Int), v7 = .int .i64 x7_16 ∧ Aside0 (portmanteauref10_One.j5 kq a0 a1 (bt a0 a1) x7_16 128 191 = some (r1, r2)) ∧ Aside0 (kq ≤ kj14) ∧ Drawn0 w wc)
                            case first =>
                              have H := HC17.out
                              clear HC17
                              by_cases c18 : x36_14 = true
                              · subst c18
                                have H1 : (portmanteauref10_One.j5 kj14 a0 a1 (bt a0 a1) 3 128 191) = some (r1, r2) := by rw [if_pos rfl] at H; exact H
                                clear H
                                have H := H1
                                clear H1
                                have H' := Aside0.mk H
                                clear H
                                go_wp2
                                go_meet
                                case rel => exact ⟨_, (3), (by first | rfl | (simp; done) | (simp [*]; done)), H', ⟨by have := HJ6.out; have := HJ8.out; have := HJ10.out; have := HJ12.out; have := HJ14.out; first | omega | exact Nat.le_refl _⟩, by repeat (first | exact Drawn0.refl _ | apply Drawn0.step)⟩
                              · replace c18 := Bool.eq_false_iff.mpr c18
                                subst c18
                                have H1 : (portmanteauref10_One.j5 kj14 a0 a1 (bt a0 a1) x7_12 128 191) = some (r1, r2) := by rw [if_neg (show ¬ (false = true) by decide)] at H; exact H
                                clear H
                                have H := H1
                                clear H1
                                have H' := Aside0.mk H
                                clear H
                                go_wp2
                                go_meet
                                case rel => exact ⟨_, (x7_12), (by first | rfl | (simp; done) | (simp [*]; done)), H', ⟨by have := HJ6.out; have := HJ8.out; have := HJ10.out; have := HJ12.out; have := HJ14.out; first | omega | exact Nat.le_refl _⟩, by repeat (first | exact Drawn0.refl _ | apply Drawn0.step)⟩
                            case rest =>
                              clear HC17
                              try clear c1
                              try clear p2
                              try clear c3
                              try clear c3b0
                              try clear c4
                              try clear c4b0
                              try clear p5
                              try clear q5
                              try clear hx5
                              try clear c6
                              try clear c6b0
                              try clear p6
                              try clear c8
                              try clear c8b0
                              try clear c10
                              try clear c12
                              try clear c12b0
                              try clear c14
                              try clear c16
                              try clear c16b0
                              try clear c18
                              try clear p2
                              try clear p5
                              try clear p6
                              try clear q5
                              obtain ⟨kq, x7_16, rfl, HA, HJ16, ⟨mc16, rfl⟩⟩ := hcut
                              cases kq with
                              | zero => exact absurd HA.out (by simp [portmanteauref10_One.j5])
                              | succ kj16 =>
                                have H := HA.out
                                clear HA
                                simp only [portmanteauref10_One.j5] at H
                                have HC19 := Aside0.mk H
                                clear H
                                go_upto_if 38 with (fail)
                                go_cut [8] (fun v8 wc => ∃ (kq : Nat) (x8_18 : Int), v8 = .int .u8 x8_18 ∧ Aside0 (portmanteauref10_One.j6 kq a0 a1 (bt a0 a1) x7_16 x8_18 191 = some (r1, r2)) ∧ Aside0 (kq ≤ kj16) ∧ Drawn0 w wc)
                                case first =>
                                  have H := HC19.out
                                  clear HC19
                                  by_cases c20 : (bt a0 a1) = 224
                                  · rw [if_pos c20] at H
                                    have c20b0 : ((bt a0 a1) == 224) = true := beq_iff_eq.mpr c20
                                    have c20b1 : ((bt a0 a1) != 224) = false := bne_eq_false_iff_eq.mpr c20
                                    clear c20
                                    (first | rw [c20b0] | (simp only [i64_w, i32_w]; rw [c20b0]) | skip)
                                    have H' := Aside0.mk H
                                    clear H
                                    go_wp2
                                    go_meet
                                    case rel => exact ⟨_, (160), (by first | rfl | (simp; done) | (simp [*]; done)), H', ⟨by have := HJ6.out; have := HJ8.out; have := HJ10.out; have := HJ12.out; have := HJ14.out; have := HJ16.out; first | omega | exact Nat.le_refl _⟩, by repeat (first | exact Drawn0.refl _ | apply Drawn0.step)⟩
                                  · rw [if_neg c20] at H
                                    have c20b0 : ((bt a0 a1) == 224) = false := beq_eq_false_iff_ne.mpr c20
                                    have c20b1 : ((bt a0 a1) != 224) = true := bne_iff_ne.mpr c20
                                    (first | rw [c20b0] | (simp only [i64_w, i32_w]; rw [c20b0]) | skip)
                                    have H' := Aside0.mk H
                                    clear H
                                    go_wp2
                                    go_meet
                                    case rel => exact ⟨_, (128), (by first | rfl | (simp; done) | (simp [*]; done)), H', ⟨by have := HJ6.out; have := HJ8.out; have := HJ10.out; have := HJ12.out; have := HJ14.out; have := HJ16.out; first | omega | exact Nat.le_refl _⟩, by repeat (first | exact Drawn0.refl _ | apply Drawn0.step)⟩
                                case rest =>
                                  clear HC19
                                  try clear c1
                                  try clear c2
                                  try clear p2
                                  try clear c3
                                  try clear c3b0
                                  try clear c4
                                  try clear c4b0
                                  try clear p5
                                  try clear q5
                                  try clear hx5
                                  try clear c6
                                  try clear c6b0
                                  try clear p6
                                  try clear c8
                                  try clear c8b0
                                  try clear c10
                                  try clear c12
                                  try clear c12b0
                                  try clear c14
                                  try clear c16
                                  try clear c16b0
                                  try clear c18
                                  try clear c20
                                  try clear c20b0
                                  try clear c20b1
                                  try clear p2
                                  try clear p5
                                  try clear p6
                                  try clear q5
                                  obtain ⟨kq, x8_18, rfl, HA, HJ18, ⟨mc18, rfl⟩⟩ := hcut
                                  cases kq with
                                  | zero => exact absurd HA.out (by simp [portmanteauref10_One.j6])
                                  | succ kj18 =>
                                    have H := HA.out
                                    clear HA
                                    simp only [portmanteauref10_One.j6] at H
                                    have HC21 := Aside0.mk H
                                    clear H
                                    go_upto_if 40 with (fail)
                                    go_cut [9] (fun v9 wc => ∃ (kq : Nat) (x9_20 : Int), v9 = .int .u8 x9_20 ∧ Aside0 (portmanteauref10_One.j7 kq a0 a1 (bt a0 a1) x7_16 x8_18 x9_20 = some (r1, r2)) ∧ Aside0 (kq ≤ kj18) ∧ Drawn0 w wc)
                                    case first =>
                                      have H := HC21.out
                                      clear HC21
                                      by_cases c22 : (bt a0 a1) = 237
                                      · rw [if_pos c22] at H
                                        have c22b0 : ((bt a0 a1) == 237) = true := beq_iff_eq.mpr c22
                                        have c22b1 : ((bt a0 a1) != 237) = false := bne_eq_false_iff_eq.mpr c22
                                        clear c22
                                        (first | rw [c22b0] | (simp only [i64_w, i32_w]; rw [c22b0]) | skip)
                                        have H' := Aside0.mk H
                                        clear H
                                        go_wp2
                                        go_meet
                                        case rel => exact ⟨_, (159), (by first | rfl | (simp; done) | (simp [*]; done)), H', ⟨by have := HJ6.out; have := HJ8.out; have := HJ10.out; have := HJ12.out; have := HJ14.out; have := HJ16.out; have := HJ18.out; first | omega | exact Nat.le_refl _⟩, by repeat (first | exact Drawn0.refl _ | apply Drawn0.step)⟩
                                      · rw [if_neg c22] at H
                                        have c22b0 : ((bt a0 a1) == 237) = false := beq_eq_false_iff_ne.mpr c22
                                        have c22b1 : ((bt a0 a1) != 237) = true := bne_iff_ne.mpr c22
                                        (first | rw [c22b0] | (simp only [i64_w, i32_w]; rw [c22b0]) | skip)
                                        have H' := Aside0.mk H
                                        clear H
                                        go_wp2
                                        go_meet
                                        case rel => exact ⟨_, (191), (by first | rfl | (simp; done) | (simp [*]; done)), H', ⟨by have := HJ6.out; have := HJ8.out; have := HJ10.out; have := HJ12.out; have := HJ14.out; have := HJ16.out; have := HJ18.out; first | omega | exact Nat.le_refl _⟩, by repeat (first | exact Drawn0.refl _ | apply Drawn0.step)⟩
                                    case rest =>
                                      clear HC21
                                      try clear c1
                                      try clear c2
                                      try clear p2
                                      try clear c3
                                      try clear c3b0
                                      try clear c4
                                      try clear c4b0
                                      try clear p5
                                      try clear q5
                                      try clear hx5
                                      try clear c6
                                      try clear c6b0
                                      try clear p6
                                      try clear c8
                                      try clear c8b0
                                      try clear c10
                                      try clear c12
                                      try clear c12b0
                                      try clear c14
                                      try clear c16
                                      try clear c16b0
                                      try clear c18
                                      try clear c20
                                      try clear c20b0
                                      try clear c20b1
                                      try clear c22
                                      try clear c22b0
                                      try clear c22b1
                                      try clear p2
                                      try clear p5
                                      try clear p6
                                      try clear q5
                                      obtain ⟨kq, x9_20, rfl, HA, HJ20, ⟨mc20, rfl⟩⟩ := hcut
                                      cases kq with
                                      | zero => exact absurd HA.out (by simp [portmanteauref10_One.j7])
                                      | succ kj20 =>
                                        have H := HA.out
                                        clear HA
                                        simp only [portmanteauref10_One.j7] at H
                                        have HC23 := Aside0.mk H
                                        clear H
                                        go_upto_if 42 with (fail)
                                        go_cut [8] (fun v8 wc => ∃ (kq : Nat) (x8_22 : Int), v8 = .int .u8 x8_22 ∧ Aside0 (portmanteauref10_One.j8 kq a0 a1 (bt a0 a1) x7_16 x8_22 x9_20 = some (r1, r2)) ∧ Aside0 (kq ≤ kj20) ∧ Drawn0 w wc)
                                        case first =>
                                          have H := HC23.out
                                          clear HC23
                                          by_cases c24 : (bt a0 a1) = 240
                                          · rw [if_pos c24] at H
                                            have c24b0 : ((bt a0 a1) == 240) = true := beq_iff_eq.mpr c24
                                            have c24b1 : ((bt a0 a1) != 240) = false := bne_eq_false_iff_eq.mpr c24
                                            clear c24
                                            (first | rw [c24b0] | (simp only [i64_w, i32_w]; rw [c24b0]) | skip)
                                            have H' := Aside0.mk H
                                            clear H
                                            go_wp2
                                            go_meet
                                            case rel => exact ⟨_, (144), (by first | rfl | (simp; done) | (simp [*]; done)), H', ⟨by have := HJ6.out; have := HJ8.out; have := HJ10.out; have := HJ12.out; have := HJ14.out; have := HJ16.out; have := HJ18.out; have := HJ20.out; first | omega | exact Nat.le_refl _⟩, by repeat (first | exact Drawn0.refl _ | apply Drawn0.step)⟩
                                          · rw [if_neg c24] at H
                                            have c24b0 : ((bt a0 a1) == 240) = false := beq_eq_false_iff_ne.mpr c24
                                            have c24b1 : ((bt a0 a1) != 240) = true := bne_iff_ne.mpr c24
                                            (first | rw [c24b0] | (simp only [i64_w, i32_w]; rw [c24b0]) | skip)
                                            have H' := Aside0.mk H
                                            clear H
                                            go_wp2
                                            go_meet
                                            case rel => exact ⟨_, (x8_18), (by first | rfl | (simp; done) | (simp [*]; done)), H', ⟨by have := HJ6.out; have := HJ8.out; have := HJ10.out; have := HJ12.out; have := HJ14.out; have := HJ16.out; have := HJ18.out; have := HJ20.out; first | omega | exact Nat.le_refl _⟩, by repeat (first | exact Drawn0.refl _ | apply Drawn0.step)⟩
                                        case rest =>
                                          clear HC23
                                          try clear c1
                                          try clear c2
                                          try clear p2
                                          try clear c3
                                          try clear c3b0
                                          try clear c4
                                          try clear c4b0
                                          try clear p5
                                          try clear q5
                                          try clear hx5
                                          try clear c6
                                          try clear c6b0
                                          try clear p6
                                          try clear c8
                                          try clear c8b0
                                          try clear c10
                                          try clear c12
                                          try clear c12b0
                                          try clear c14
                                          try clear c16
                                          try clear c16b0
                                          try clear c18
                                          try clear c20
                                          try clear c20b0
                                          try clear c20b1
                                          try clear c22
                                          try clear c22b0
                                          try clear c22b1
                                          try clear c24
                                          try clear c24b0
                                          try clear c24b1
                                          try clear p2
                                          try clear p5
                                          try clear p6
                                          try clear q5
                                          obtain ⟨kq, x8_22, rfl, HA, HJ22, ⟨mc22, rfl⟩⟩ := hcut
                                          cases kq with
                                          | zero => exact absurd HA.out (by simp [portmanteauref10_One.j8])
                                          | succ kj22 =>
                                            have H := HA.out
                                            clear HA
                                            simp only [portmanteauref10_One.j8] at H
                                            have HC25 := Aside0.mk H
                                            clear H
                                            go_upto_if 44 with (fail)
                                            go_cut [9] (fun v9 wc => ∃ (kq : Nat) (x9_24 : Int), v9 = .int .u8 x9_24 ∧ Aside0 (portmanteauref10_One.j9 kq a0 a1 (bt a0 a1) x7_16 x8_22 x9_24 = some (r1, r2)) ∧ Aside0 (kq ≤ kj22) ∧ Drawn0 w wc)
                                            case first =>
                                              have H := HC25.out
                                              clear HC25
                                              by_cases c26 : (bt a0 a1) = 244
                                              · rw [if_pos c26] at H
                                                have c26b0 : ((bt a0 a1) == 244) = true := beq_iff_eq.mpr c26
                                                have c26b1 : ((bt a0 a1) != 244) = false := bne_eq_false_iff_eq.mpr c26
                                                clear c26
                                                (first | rw [c26b0] | (simp only [i64_w, i32_w]; rw [c26b0]) | skip)
                                                have H' := Aside0.mk H
                                                clear H
                                                go_wp2
                                                go_meet
                                                case rel => exact ⟨_, (143), (by first | rfl | (simp; done) | (simp [*]; done)), H', ⟨by have := HJ6.out; have := HJ8.out; have := HJ10.out; have := HJ12.out; have := HJ14.out; have := HJ16.out; have := HJ18.out; have := HJ20.out; have := HJ22.out; first | omega | exact Nat.le_refl _⟩, by repeat (first | exact Drawn0.refl _ | apply Drawn0.step)⟩
                                              · rw [if_neg c26] at H
                                                have c26b0 : ((bt a0 a1) == 244) = false := beq_eq_false_iff_ne.mpr c26
                                                have c26b1 : ((bt a0 a1) != 244) = true := bne_iff_ne.mpr c26
                                                (first | rw [c26b0] | (simp only [i64_w, i32_w]; rw [c26b0]) | skip)
                                                have H' := Aside0.mk H
                                                clear H
                                                go_wp2
                                                go_meet
                                                case rel => exact ⟨_, (x9_20), (by first | rfl | (simp; done) | (simp [*]; done)), H', ⟨by have := HJ6.out; have := HJ8.out; have := HJ10.out; have := HJ12.out; have := HJ14.out; have := HJ16.out; have := HJ18.out; have := HJ20.out; have := HJ22.out; first | omega | exact Nat.le_refl _⟩, by repeat (first | exact Drawn0.refl _ | apply Drawn0.step)⟩
                                            case rest =>
                                              clear HC25
                                              try clear c1
                                              try clear c2
                                              try clear p2
                                              try clear c3
                                              try clear c3b0
                                              try clear c4
                                              try clear c4b0
                                              try clear p5
                                              try clear q5
                                              try clear hx5
                                              try clear c6
                                              try clear c6b0
                                              try clear p6
                                              try clear c8
                                              try clear c8b0
                                              try clear c10
                                              try clear c12
                                              try clear c12b0
                                              try clear c14
                                              try clear c16
                                              try clear c16b0
                                              try clear c18
                                              try clear c20
                                              try clear c20b0
                                              try clear c20b1
                                              try clear c22
                                              try clear c22b0
                                              try clear c22b1
                                              try clear c24
                                              try clear c24b0
                                              try clear c24b1
                                              try clear c26
                                              try clear c26b0
                                              try clear c26b1
                                              try clear p2
                                              try clear p5
                                              try clear p6
                                              try clear q5
                                              obtain ⟨kq, x9_24, rfl, HA, HJ24, ⟨mc24, rfl⟩⟩ := hcut
                                              cases kq with
                                              | zero => exact absurd HA.out (by simp [portmanteauref10_One.j9])
                                              | succ kj24 =>
                                                have H := HA.out
                                                clear HA
                                                simp only [portmanteauref10_One.j9] at H
                                                have HC27 := Aside0.mk H
                                                clear H
                                                go_upto_region 20 with (fail)
                                                go_cut [77] (fun v77 wc => ∃ (kq : Nat) (x77_26 : Bool), v77 = .bool x77_26 ∧ Aside0 (portmanteauref10_One.j10 kq a0 a1 (bt a0 a1) x7_16 x77_26 = some (r1, r2)) ∧ Aside0 (kq ≤ kj24) ∧ Drawn0 w wc)
                                                case first =>
                                                  have H := HC27.out
                                                  clear HC27
                                                  by_cases c28 : x7_16 = 0
                                                  · rw [if_pos c28] at H
                                                    have c28b0 : (x7_16 == 0) = true := beq_iff_eq.mpr c28
                                                    have c28b1 : (x7_16 != 0) = false := bne_eq_false_iff_eq.mpr c28
                                                    clear c28
                                                    (first | rw [c28b0] | (simp only [i64_w, i32_w]; rw [c28b0]) | skip)
                                                    have H' := Aside0.mk H
                                                    clear H
                                                    go_wp2
                                                    go_meet
                                                    case rel => exact ⟨_, (true), (by first | rfl | (simp; done) | (simp [*]; done)), H', ⟨by have := HJ6.out; have := HJ8.out; have := HJ10.out; have := HJ12.out; have := HJ14.out; have := HJ16.out; have := HJ18.out; have := HJ20.out; have := HJ22.out; have := HJ24.out; first | omega | exact Nat.le_refl _⟩, by repeat (first | exact Drawn0.refl _ | apply Drawn0.step)⟩
                                                  · rw [if_neg c28] at H
                                                    have c28b0 : (x7_16 == 0) = false := beq_eq_false_iff_ne.mpr c28
                                                    have c28b1 : (x7_16 != 0) = true := bne_iff_ne.mpr c28
                                                    (first | rw [c28b0] | (simp only [i64_w, i32_w]; rw [c28b0]) | skip)
                                                    replace H := Option.bind_eq_some_iff.mp H
                                                    obtain ⟨t152, A290, H⟩ := H
                                                    replace H : (if t152 = true then (if x7_16 > 1 then ((portmanteauref10_within.f a0 (wrap64 (a1 + 2)) 128 191).bind fun t153 => (if t153 = true then (if x7_16 > 2 then ((portmanteauref10_within.f a0 (wrap64 (a1 + 3)) 128 191).bind fun t154 => (portmanteauref10_One.j10 kj24 a0 a1 (bt a0 a1) x7_16 (!t154))) else (portmanteauref10_One.j10 kj24 a0 a1 (bt a0 a1) x7_16 false)) else (portmanteauref10_One.j10 kj24 a0 a1 (bt a0 a1) x7_16 true))) else (if x7_16 > 2 then ((portmanteauref10_within.f a0 (wrap64 (a1 + 3)) 128 191).bind fun t155 => (portmanteauref10_One.j10 kj24 a0 a1 (bt a0 a1) x7_16 (!t155))) else (portmanteauref10_One.j10 kj24 a0 a1 (bt a0 a1) x7_16 false))) else (portmanteauref10_One.j10 kj24 a0 a1 (bt a0 a1) x7_16 true)) = some (r1, r2) := H
                                                    have A29 := Aside0.mk A290
                                                    clear A290
                                                    by_cases c30 : t152 = true
                                                    · subst c30
                                                      have H1 : (if x7_16 > 1 then ((portmanteauref10_within.f a0 (wrap64 (a1 + 2)) 128 191).bind fun t153 => (if t153 = true then (if x7_16 > 2 then ((portmanteauref10_within.f a0 (wrap64 (a1 + 3)) 128 191).bind fun t154 => (portmanteauref10_One.j10 kj24 a0 a1 (bt a0 a1) x7_16 (!t154))) else (portmanteauref10_One.j10 kj24 a0 a1 (bt a0 a1) x7_16 false)) else (portmanteauref10_One.j10 kj24 a0 a1 (bt a0 a1) x7_16 true))) else (if x7_16 > 2 then ((portmanteauref10_within.f a0 (wrap64 (a1 + 3)) 128 191).bind fun t155 => (portmanteauref10_One.j10 kj24 a0 a1 (bt a0 a1) x7_16 (!t155))) else (portmanteauref10_One.j10 kj24 a0 a1 (bt a0 a1) x7_16 false))) = some (r1, r2) := by rw [if_pos rfl] at H; exact H
                                                      clear H
                                                      have H := H1
                                                      clear H1
                                                      by_cases c31 : x7_16 > 1
                                                      · rw [if_pos c31] at H
                                                        have c31b0 : decide (1 < x7_16) = true := decide_eq_true c31
                                                        clear c31
                                                        replace H := Option.bind_eq_some_iff.mp H
                                                        obtain ⟨t153, A320, H⟩ := H
                                                        replace H : (if t153 = true then (if x7_16 > 2 then ((portmanteauref10_within.f a0 (wrap64 (a1 + 3)) 128 191).bind fun t154 => (portmanteauref10_One.j10 kj24 a0 a1 (bt a0 a1) x7_16 (!t154))) else (portmanteauref10_One.j10 kj24 a0 a1 (bt a0 a1) x7_16 false)) else (portmanteauref10_One.j10 kj24 a0 a1 (bt a0 a1) x7_16 true)) = some (r1, r2) := H
                                                        have A32 := Aside0.mk A320
                                                        clear A320
                                                        by_cases c33 : t153 = true
                                                        · subst c33
                                                          have H1 : (if x7_16 > 2 then ((portmanteauref10_within.f a0 (wrap64 (a1 + 3)) 128 191).bind fun t154 => (portmanteauref10_One.j10 kj24 a0 a1 (bt a0 a1) x7_16 (!t154))) else (portmanteauref10_One.j10 kj24 a0 a1 (bt a0 a1) x7_16 false)) = some (r1, r2) := by rw [if_pos rfl] at H; exact H
                                                          clear H
                                                          have H := H1
                                                          clear H1
                                                          by_cases c34 : x7_16 > 2
                                                          · rw [if_pos c34] at H
                                                            have c34b0 : decide (2 < x7_16) = true := decide_eq_true c34
                                                            clear c34
                                                            replace H := Option.bind_eq_some_iff.mp H
                                                            obtain ⟨t154, A350, H⟩ := H
                                                            replace H : (portmanteauref10_One.j10 kj24 a0 a1 (bt a0 a1) x7_16 (!t154)) = some (r1, r2) := H
                                                            have A35 := Aside0.mk A350
                                                            clear A350
                                                            have H' := Aside0.mk H
                                                            clear H
                                                            go_wp2_with (first | (go_at_call 39; (with_reducible refine (portmanteauref10_within.calls a0 (wrap64 (a1 + 1)) x8_22 x9_24 true _ A29.out).mono ?_); rintro e w' ⟨rfl, ⟨nd, rfl⟩⟩) | (go_at_call 39; (with_reducible refine (portmanteauref10_within.calls a0 (wrap64 (a1 + 2)) 128 191 true _ A32.out).mono ?_); rintro e w' ⟨rfl, ⟨nd, rfl⟩⟩) | (go_at_call 39; (with_reducible refine (portmanteauref10_within.calls a0 (wrap64 (a1 + 3)) 128 191 t154 _ A35.out).mono ?_); rintro e w' ⟨rfl, ⟨nd, rfl⟩⟩))
                                                            go_meet
                                                            case rel => exact ⟨_, (!t154), (by first | rfl | (simp; done) | (simp [*]; done)), H', ⟨by have := HJ6.out; have := HJ8.out; have := HJ10.out; have := HJ12.out; have := HJ14.out; have := HJ16.out; have := HJ18.out; have := HJ20.out; have := HJ22.out; have := HJ24.out; first | omega | exact Nat.le_refl _⟩, by repeat (first | exact Drawn0.refl _ | apply Drawn0.step)⟩
                                                          · rw [if_neg c34] at H
                                                            have c34b0 : decide (2 < x7_16) = false := decide_eq_false c34
                                                            clear c34
                                                            have H' := Aside0.mk H
                                                            clear H
                                                            go_wp2_with (first | (go_at_call 39; (with_reducible refine (portmanteauref10_within.calls a0 (wrap64 (a1 + 1)) x8_22 x9_24 true _ A29.out).mono ?_); rintro e w' ⟨rfl, ⟨nd, rfl⟩⟩) | (go_at_call 39; (with_reducible refine (portmanteauref10_within.calls a0 (wrap64 (a1 + 2)) 128 191 true _ A32.out).mono ?_); rintro e w' ⟨rfl, ⟨nd, rfl⟩⟩))
                                                            go_meet
                                                            case rel => exact ⟨_, (false), (by first | rfl | (simp; done) | (simp [*]; done)), H', ⟨by have := HJ6.out; have := HJ8.out; have := HJ10.out; have := HJ12.out; have := HJ14.out; have := HJ16.out; have := HJ18.out; have := HJ20.out; have := HJ22.out; have := HJ24.out; first | omega | exact Nat.le_refl _⟩, by repeat (first | exact Drawn0.refl _ | apply Drawn0.step)⟩
                                                        · replace c33 := Bool.eq_false_iff.mpr c33
                                                          subst c33
                                                          have H1 : (portmanteauref10_One.j10 kj24 a0 a1 (bt a0 a1) x7_16 true) = some (r1, r2) := by rw [if_neg (show ¬ (false = true) by decide)] at H; exact H
                                                          clear H
                                                          have H := H1
                                                          clear H1
                                                          have H' := Aside0.mk H
                                                          clear H
                                                          go_wp2_with (first | (go_at_call 39; (with_reducible refine (portmanteauref10_within.calls a0 (wrap64 (a1 + 1)) x8_22 x9_24 true _ A29.out).mono ?_); rintro e w' ⟨rfl, ⟨nd, rfl⟩⟩) | (go_at_call 39; (with_reducible refine (portmanteauref10_within.calls a0 (wrap64 (a1 + 2)) 128 191 false _ A32.out).mono ?_); rintro e w' ⟨rfl, ⟨nd, rfl⟩⟩))
                                                          go_meet
                                                          case rel => exact ⟨_, (true), (by first | rfl | (simp; done) | (simp [*]; done)), H', ⟨by have := HJ6.out; have := HJ8.out; have := HJ10.out; have := HJ12.out; have := HJ14.out; have := HJ16.out; have := HJ18.out; have := HJ20.out; have := HJ22.out; have := HJ24.out; first | omega | exact Nat.le_refl _⟩, by repeat (first | exact Drawn0.refl _ | apply Drawn0.step)⟩
                                                      · rw [if_neg c31] at H
                                                        have c31b0 : decide (1 < x7_16) = false := decide_eq_false c31
                                                        clear c31
                                                        by_cases c36 : x7_16 > 2
                                                        · rw [if_pos c36] at H
                                                          have c36b0 : decide (2 < x7_16) = true := decide_eq_true c36
                                                          clear c36
                                                          replace H := Option.bind_eq_some_iff.mp H
                                                          obtain ⟨t155, A370, H⟩ := H
                                                          replace H : (portmanteauref10_One.j10 kj24 a0 a1 (bt a0 a1) x7_16 (!t155)) = some (r1, r2) := H
                                                          have A37 := Aside0.mk A370
                                                          clear A370
                                                          have H' := Aside0.mk H
                                                          clear H
                                                          go_wp2_with (first | (go_at_call 39; (with_reducible refine (portmanteauref10_within.calls a0 (wrap64 (a1 + 1)) x8_22 x9_24 true _ A29.out).mono ?_); rintro e w' ⟨rfl, ⟨nd, rfl⟩⟩) | (go_at_call 39; (with_reducible refine (portmanteauref10_within.calls a0 (wrap64 (a1 + 3)) 128 191 t155 _ A37.out).mono ?_); rintro e w' ⟨rfl, ⟨nd, rfl⟩⟩))
                                                          go_meet
                                                          case rel => exact ⟨_, (!t155), (by first | rfl | (simp; done) | (simp [*]; done)), H', ⟨by have := HJ6.out; have := HJ8.out; have := HJ10.out; have := HJ12.out; have := HJ14.out; have := HJ16.out; have := HJ18.out; have := HJ20.out; have := HJ22.out; have := HJ24.out; first | omega | exact Nat.le_refl _⟩, by repeat (first | exact Drawn0.refl _ | apply Drawn0.step)⟩
                                                        · rw [if_neg c36] at H
                                                          have c36b0 : decide (2 < x7_16) = false := decide_eq_false c36
                                                          clear c36
                                                          have H' := Aside0.mk H
                                                          clear H
                                                          go_wp2_with (first | (go_at_call 39; (with_reducible refine (portmanteauref10_within.calls a0 (wrap64 (a1 + 1)) x8_22 x9_24 true _ A29.out).mono ?_); rintro e w' ⟨rfl, ⟨nd, rfl⟩⟩))
                                                          go_meet
                                                          case rel => exact ⟨_, (false), (by first | rfl | (simp; done) | (simp [*]; done)), H', ⟨by have := HJ6.out; have := HJ8.out; have := HJ10.out; have := HJ12.out; have := HJ14.out; have := HJ16.out; have := HJ18.out; have := HJ20.out; have := HJ22.out; have := HJ24.out; first | omega | exact Nat.le_refl _⟩, by repeat (first | exact Drawn0.refl _ | apply Drawn0.step)⟩
                                                    · replace c30 := Bool.eq_false_iff.mpr c30
                                                      subst c30
                                                      have H1 : (portmanteauref10_One.j10 kj24 a0 a1 (bt a0 a1) x7_16 true) = some (r1, r2) := by rw [if_neg (show ¬ (false = true) by decide)] at H; exact H
                                                      clear H
                                                      have H := H1
                                                      clear H1
                                                      have H' := Aside0.mk H
                                                      clear H
                                                      go_wp2_with (first | (go_at_call 39; (with_reducible refine (portmanteauref10_within.calls a0 (wrap64 (a1 + 1)) x8_22 x9_24 false _ A29.out).mono ?_); rintro e w' ⟨rfl, ⟨nd, rfl⟩⟩))
                                                      go_meet
                                                      case rel => exact ⟨_, (true), (by first | rfl | (simp; done) | (simp [*]; done)), H', ⟨by have := HJ6.out; have := HJ8.out; have := HJ10.out; have := HJ12.out; have := HJ14.out; have := HJ16.out; have := HJ18.out; have := HJ20.out; have := HJ22.out; have := HJ24.out; first | omega | exact Nat.le_refl _⟩, by repeat (first | exact Drawn0.refl _ | apply Drawn0.step)⟩
                                                case rest =>
                                                  clear HC27
                                                  try clear c1
                                                  try clear c2
                                                  try clear p2
                                                  try clear c3
                                                  try clear c3b0
                                                  try clear c4
                                                  try clear c4b0
                                                  try clear p5
                                                  try clear q5
                                                  try clear hx5
                                                  try clear c6
                                                  try clear c6b0
                                                  try clear p6
                                                  try clear c8
                                                  try clear c8b0
                                                  try clear c10
                                                  try clear c12
                                                  try clear c12b0
                                                  try clear c14
                                                  try clear c16
                                                  try clear c16b0
                                                  try clear c18
                                                  try clear c20
                                                  try clear c20b0
                                                  try clear c20b1
                                                  try clear c22
                                                  try clear c22b0
                                                  try clear c22b1
                                                  try clear c24
                                                  try clear c24b0
                                                  try clear c24b1
                                                  try clear c26
                                                  try clear c26b0
                                                  try clear c26b1
                                                  try clear c28
                                                  try clear c28b0
                                                  try clear c28b1
                                                  try clear c30
                                                  try clear c31
                                                  try clear c31b0
                                                  try clear c33
                                                  try clear c34
                                                  try clear c34b0
                                                  try clear c36
                                                  try clear c36b0
                                                  try clear p2
                                                  try clear p5
                                                  try clear p6
                                                  try clear q5
                                                  obtain ⟨kq, x77_26, rfl, HA, HJ26, ⟨mc26, rfl⟩⟩ := hcut
                                                  cases kq with
                                                  | zero => exact absurd HA.out (by simp [portmanteauref10_One.j10])
                                                  | succ kj26 =>
                                                    have H := HA.out
                                                    clear HA
                                                    simp only [portmanteauref10_One.j10] at H
                                                    by_cases c38 : x77_26 = true
                                                    · subst c38
                                                      have H1 : (some ((-1), 1)) = some (r1, r2) := by rw [if_pos rfl] at H; exact H
                                                      clear H
                                                      have H := H1
                                                      clear H1
                                                      simp only [Option.some.injEq, Prod.mk.injEq] at H
                                                      obtain ⟨rfl, rfl⟩ := H
                                                      go_wp2
                                                      go_ret2
                                                      exact ⟨by first | rfl | (simp; done) | (simp [*]; done), by repeat (first | exact Drawn0.refl _ | apply Drawn0.step)⟩
                                                    · replace c38 := Bool.eq_false_iff.mpr c38
                                                      subst c38
                                                      have H1 : (if x7_16 = 2 then (portmanteauref10_One.j11 kj26 a0 a1 (bt a0 a1) x7_16 (Int.tmod (wrap64 ((bt a0 a1))) 16)) else (portmanteauref10_One.j11 kj26 a0 a1 (bt a0 a1) x7_16 (Int.tmod (wrap64 ((bt a0 a1))) 32))) = some (r1, r2) := by rw [if_neg (show ¬ (false = true) by decide)] at H; exact H
                                                      clear H
                                                      have H := H1
                                                      clear H1
                                                      have HC39 := Aside0.mk H
                                                      clear H
                                                      go_upto_if 82 with (fail)
                                                      go_cut [10] (fun v10 wc => ∃ (kq : Nat) (x10_38 : Int), v10 = .int .i64 x10_38 ∧ Aside0 (portmanteauref10_One.j11 kq a0 a1 (bt a0 a1) x7_16 x10_38 = some (r1, r2)) ∧ Aside0 (kq ≤ kj26) ∧ Drawn0 w wc)
                                                      case first =>
                                                        have H := HC39.out
                                                        clear HC39
                                                        by_cases c40 : x7_16 = 2
                                                        · rw [if_pos c40] at H
                                                          have c40b0 : (x7_16 == 2) = true := beq_iff_eq.mpr c40
                                                          have c40b1 : (x7_16 != 2) = false := bne_eq_false_iff_eq.mpr c40
                                                          clear c40
                                                          (first | rw [c40b0] | (simp only [i64_w, i32_w]; rw [c40b0]) | skip)
                                                          have H' := Aside0.mk H
                                                          clear H
                                                          go_wp2
                                                          go_meet
                                                          case rel => exact ⟨_, (Int.tmod (wrap64 ((bt a0 a1))) 16), (by first | rfl | (simp; done) | (simp [*]; done)), H', ⟨by have := HJ6.out; have := HJ8.out; have := HJ10.out; have := HJ12.out; have := HJ14.out; have := HJ16.out; have := HJ18.out; have := HJ20.out; have := HJ22.out; have := HJ24.out; have := HJ26.out; first | omega | exact Nat.le_refl _⟩, by repeat (first | exact Drawn0.refl _ | apply Drawn0.step)⟩
                                                        · rw [if_neg c40] at H
                                                          have c40b0 : (x7_16 == 2) = false := beq_eq_false_iff_ne.mpr c40
                                                          have c40b1 : (x7_16 != 2) = true := bne_iff_ne.mpr c40
                                                          (first | rw [c40b0] | (simp only [i64_w, i32_w]; rw [c40b0]) | skip)
                                                          have H' := Aside0.mk H
                                                          clear H
                                                          go_wp2
                                                          go_meet
                                                          case rel => exact ⟨_, (Int.tmod (wrap64 ((bt a0 a1))) 32), (by first | rfl | (simp; done) | (simp [*]; done)), H', ⟨by have := HJ6.out; have := HJ8.out; have := HJ10.out; have := HJ12.out; have := HJ14.out; have := HJ16.out; have := HJ18.out; have := HJ20.out; have := HJ22.out; have := HJ24.out; have := HJ26.out; first | omega | exact Nat.le_refl _⟩, by repeat (first | exact Drawn0.refl _ | apply Drawn0.step)⟩
                                                      case rest =>
                                                        clear HC39
                                                        try clear c1
                                                        try clear c2
                                                        try clear p2
                                                        try clear c3
                                                        try clear c3b0
                                                        try clear c4
                                                        try clear c4b0
                                                        try clear p5
                                                        try clear q5
                                                        try clear hx5
                                                        try clear c6
                                                        try clear c6b0
                                                        try clear p6
                                                        try clear c8
                                                        try clear c8b0
                                                        try clear c10
                                                        try clear c12
                                                        try clear c12b0
                                                        try clear c14
                                                        try clear c16
                                                        try clear c16b0
                                                        try clear c18
                                                        try clear c20
                                                        try clear c20b0
                                                        try clear c20b1
                                                        try clear c22
                                                        try clear c22b0
                                                        try clear c22b1
                                                        try clear c24
                                                        try clear c24b0
                                                        try clear c24b1
                                                        try clear c26
                                                        try clear c26b0
                                                        try clear c26b1
                                                        try clear c28
                                                        try clear c28b0
                                                        try clear c28b1
                                                        try clear c30
                                                        try clear c31
                                                        try clear c31b0
                                                        try clear c33
                                                        try clear c34
                                                        try clear c34b0
                                                        try clear c36
                                                        try clear c36b0
                                                        try clear c38
                                                        try clear c40
                                                        try clear c40b0
                                                        try clear c40b1
                                                        try clear p2
                                                        try clear p5
                                                        try clear p6
                                                        try clear q5
                                                        obtain ⟨kq, x10_38, rfl, HA, HJ38, ⟨mc38, rfl⟩⟩ := hcut
                                                        cases kq with
                                                        | zero => exact absurd HA.out (by simp [portmanteauref10_One.j11])
                                                        | succ kj38 =>
                                                          have H := HA.out
                                                          clear HA
                                                          simp only [portmanteauref10_One.j11] at H
                                                          have HC41 := Aside0.mk H
                                                          clear H
                                                          go_upto_if 87 with (fail)
                                                          go_cut [10] (fun v10 wc => ∃ (kq : Nat) (x10_40 : Int), v10 = .int .i64 x10_40 ∧ Aside0 (portmanteauref10_One.j12 kq a0 a1 x7_16 x10_40 = some (r1, r2)) ∧ Aside0 (kq ≤ kj38) ∧ Drawn0 w wc)
                                                          case first =>
                                                            have H := HC41.out
                                                            clear HC41
                                                            by_cases c42 : x7_16 = 3
                                                            · rw [if_pos c42] at H
                                                              have c42b0 : (x7_16 == 3) = true := beq_iff_eq.mpr c42
                                                              have c42b1 : (x7_16 != 3) = false := bne_eq_false_iff_eq.mpr c42
                                                              clear c42
                                                              (first | rw [c42b0] | (simp only [i64_w, i32_w]; rw [c42b0]) | skip)
                                                              have H' := Aside0.mk H
                                                              clear H
                                                              go_wp2
                                                              go_meet
                                                              case rel => exact ⟨_, (Int.tmod (wrap64 ((bt a0 a1))) 8), (by first | rfl | (simp; done) | (simp [*]; done)), H', ⟨by have := HJ6.out; have := HJ8.out; have := HJ10.out; have := HJ12.out; have := HJ14.out; have := HJ16.out; have := HJ18.out; have := HJ20.out; have := HJ22.out; have := HJ24.out; have := HJ26.out; have := HJ38.out; first | omega | exact Nat.le_refl _⟩, by repeat (first | exact Drawn0.refl _ | apply Drawn0.step)⟩
                                                            · rw [if_neg c42] at H
                                                              have c42b0 : (x7_16 == 3) = false := beq_eq_false_iff_ne.mpr c42
                                                              have c42b1 : (x7_16 != 3) = true := bne_iff_ne.mpr c42
                                                              (first | rw [c42b0] | (simp only [i64_w, i32_w]; rw [c42b0]) | skip)
                                                              have H' := Aside0.mk H
                                                              clear H
                                                              go_wp2
                                                              go_meet
                                                              case rel => exact ⟨_, (x10_38), (by first | rfl | (simp; done) | (simp [*]; done)), H', ⟨by have := HJ6.out; have := HJ8.out; have := HJ10.out; have := HJ12.out; have := HJ14.out; have := HJ16.out; have := HJ18.out; have := HJ20.out; have := HJ22.out; have := HJ24.out; have := HJ26.out; have := HJ38.out; first | omega | exact Nat.le_refl _⟩, by repeat (first | exact Drawn0.refl _ | apply Drawn0.step)⟩
                                                          case rest =>
                                                            clear HC41
                                                            try clear c1
                                                            try clear c2
                                                            try clear p2
                                                            try clear c3
                                                            try clear c3b0
                                                            try clear c4
                                                            try clear c4b0
                                                            try clear p5
                                                            try clear q5
                                                            try clear hx5
                                                            try clear c6
                                                            try clear c6b0
                                                            try clear p6
                                                            try clear c8
                                                            try clear c8b0
                                                            try clear c10
                                                            try clear c12
                                                            try clear c12b0
                                                            try clear c14
                                                            try clear c16
                                                            try clear c16b0
                                                            try clear c18
                                                            try clear c20
                                                            try clear c20b0
                                                            try clear c20b1
                                                            try clear c22
                                                            try clear c22b0
                                                            try clear c22b1
                                                            try clear c24
                                                            try clear c24b0
                                                            try clear c24b1
                                                            try clear c26
                                                            try clear c26b0
                                                            try clear c26b1
                                                            try clear c28
                                                            try clear c28b0
                                                            try clear c28b1
                                                            try clear c30
                                                            try clear c31
                                                            try clear c31b0
                                                            try clear c33
                                                            try clear c34
                                                            try clear c34b0
                                                            try clear c36
                                                            try clear c36b0
                                                            try clear c38
                                                            try clear c40
                                                            try clear c40b0
                                                            try clear c40b1
                                                            try clear c42
                                                            try clear c42b0
                                                            try clear c42b1
                                                            try clear p2
                                                            try clear p5
                                                            try clear p6
                                                            try clear q5
                                                            obtain ⟨kq, x10_40, rfl, HA, HJ40, ⟨mc40, rfl⟩⟩ := hcut
                                                            cases kq with
                                                            | zero => exact absurd HA.out (by simp [portmanteauref10_One.j12])
                                                            | succ kj40 =>
                                                              have H := HA.out
                                                              clear HA
                                                              simp only [portmanteauref10_One.j12] at H
                                                              have H' := Aside0.mk H
                                                              clear H
                                                              go_wp2
                                                              go_loopg [10, 11] kj40 (fun kq v10 v11 w' => ∃ (x10_14 : Int) (x11_14 : Int), v10 = .int .i64 x10_14 ∧ v11 = .int .i64 x11_14 ∧ Aside0 (portmanteauref10_One.l0 kq a0 a1 x7_16 x10_14 x11_14 = some (r1, r2)) ∧ Aside0 (kq ≤ kj40) ∧ Drawn0 w w')
                                                              case atStart => exact ⟨(x10_40), (1), (by first | rfl | (simp; done) | (simp [*]; done)), (by first | rfl | (simp; done) | (simp [*]; done)), H', ⟨Nat.le_refl _⟩, by repeat (first | exact Drawn0.refl _ | apply Drawn0.step)⟩
                                                              case round =>
                                                                clear H'
                                                                try clear c1
                                                                try clear c2
                                                                try clear p2
                                                                try clear c3
                                                                try clear c3b0
                                                                try clear c4
                                                                try clear c4b0
                                                                try clear p5
                                                                try clear q5
                                                                try clear hx5
                                                                try clear c6
                                                                try clear c6b0
                                                                try clear p6
                                                                try clear c8
                                                                try clear c8b0
                                                                try clear c10
                                                                try clear c12
                                                                try clear c12b0
                                                                try clear c14
                                                                try clear c16
                                                                try clear c16b0
                                                                try clear c18
                                                                try clear c20
                                                                try clear c20b0
                                                                try clear c20b1
                                                                try clear c22
                                                                try clear c22b0
                                                                try clear c22b1
                                                                try clear c24
                                                                try clear c24b0
                                                                try clear c24b1
                                                                try clear c26
                                                                try clear c26b0
                                                                try clear c26b1
                                                                try clear c28
                                                                try clear c28b0
                                                                try clear c28b1
                                                                try clear c30
                                                                try clear c31
                                                                try clear c31b0
                                                                try clear c33
                                                                try clear c34
                                                                try clear c34b0
                                                                try clear c36
                                                                try clear c36b0
                                                                try clear c38
                                                                try clear c40
                                                                try clear c40b0
                                                                try clear c40b1
                                                                try clear c42
                                                                try clear c42b0
                                                                try clear c42b1
                                                                try clear p2
                                                                try clear p5
                                                                try clear p6
                                                                try clear q5
                                                                obtain ⟨x10_14, x11_14, rfl, rfl, HA, HK14, ⟨m14, rfl⟩⟩ := hrel
                                                                cases gk with
                                                                | zero => exact absurd HA.out (by simp [portmanteauref10_One.l0])
                                                                | succ k14 =>
                                                                  have H := HA.out
                                                                  clear HA
                                                                  simp only [portmanteauref10_One.l0] at H
                                                                  by_cases c43 : x11_14 ≤ x7_16
                                                                  · rw [if_pos c43] at H
                                                                    have c43b0 : decide (x11_14 ≤ x7_16) = true := decide_eq_true c43
                                                                    clear c43
                                                                    obtain ⟨ji44, hji44⟩ : ∃ j_ : Int, (wrap64 (a1 + x11_14)) = j_ := ⟨_, rfl⟩
                                                                    replace H : (if 0 ≤ (ji44) then (if (ji44) < (a0.size : Int) then (portmanteauref10_One.l0 k14 a0 a1 x7_16 (wrap64 ((wrap64 (x10_14 * 64)) + (Int.tmod (wrap64 (bt a0 (ji44))) 64))) (wrap64 (x11_14 + 1))) else (none)) else (none)) = some (r1, r2) := by first | (rw [hji44] at H; exact H) | (simp only [hji44] at H ⊢; exact H)
                                                                    have hji44w : (IntKind.i64.wrap (a1 + x11_14)) = ji44 := (i64_w _).trans hji44
                                                                    by_cases c45 : 0 ≤ (ji44)
                                                                    · rw [if_pos c45] at H
                                                                      have c45b0 : decide (0 ≤ (ji44)) = true := decide_eq_true c45
                                                                      clear c45
                                                                      by_cases c46 : (ji44) < (a0.size : Int)
                                                                      · rw [if_pos c46] at H
                                                                        have c46b0 : decide ((ji44) < (a0.size : Int)) = true := decide_eq_true c46
                                                                        clear c46
                                                                        have H' := Aside0.mk H
                                                                        clear H
                                                                        have p47 : 0 ≤ ((ji44) : Int) := of_decide_eq_true (by first | (with_reducible assumption) | assumption)
                                                                        have q47 : (ji44) < (a0.size : Int) := of_decide_eq_true (by first | (with_reducible assumption) | assumption)
                                                                        have hx47 := bt_at a0 (ji44)
                                                                        replace p47 := eq_true p47
                                                                        replace q47 := eq_true q47
                                                                        go_wp2
                                                                        go_roundg k14
                                                                        case measure => have := HJ6.out; have := HJ8.out; have := HJ10.out; have := HJ12.out; have := HJ14.out; have := HJ16.out; have := HJ18.out; have := HJ20.out; have := HJ22.out; have := HJ24.out; have := HJ26.out; have := HJ38.out; have := HJ40.out; have := HK14.out; omega
                                                                        case rel => exact ⟨(wrap64 ((wrap64 (x10_14 * 64)) + (Int.tmod (wrap64 (bt a0 (ji44))) 64))), (wrap64 (x11_14 + 1)), (by first | rfl | (simp; done) | (simp only [← hji44] <;> (first | rfl | simp)) | (simp [*]; done)), (by first | rfl | (simp; done) | (simp [*]; done)), H', ⟨by have := HJ6.out; have := HJ8.out; have := HJ10.out; have := HJ12.out; have := HJ14.out; have := HJ16.out; have := HJ18.out; have := HJ20.out; have := HJ22.out; have := HJ24.out; have := HJ26.out; have := HJ38.out; have := HJ40.out; have := HK14.out; omega⟩, by repeat (first | exact Drawn0.refl _ | apply Drawn0.step)⟩
                                                                      · rw [if_neg c46] at H
                                                                        exact absurd H (by simp)
                                                                    · rw [if_neg c45] at H
                                                                      exact absurd H (by simp)
                                                                  · rw [if_neg c43] at H
                                                                    have c43b0 : decide (x11_14 ≤ x7_16) = false := decide_eq_false c43
                                                                    clear c43
                                                                    simp only [Option.some.injEq, Prod.mk.injEq] at H
                                                                    obtain ⟨rfl, rfl⟩ := H
                                                                    go_wp2
                                                                    go_ret2
                                                                    exact ⟨by first | rfl | (simp; done) | (simp [*]; done), by repeat (first | exact Drawn0.refl _ | apply Drawn0.step)⟩
    · rw [if_neg c4] at H
      exact absurd H (by simp)
  · rw [if_neg c3] at H
    exact absurd H (by simp)

end Go.Proofs.YtloojhhjljneeaaDoor.P
