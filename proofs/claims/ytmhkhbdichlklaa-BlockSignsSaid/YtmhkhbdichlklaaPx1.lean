/- Written by a program of this session (wip/print2: a patched copy of a printer), not by print.sh: Lean functions with the answers of the Go functions, and the proofs of that; no condition beside those that stand in each theorem. -/
import Derived.Test.YtmhkhbdichlklaaPx0
namespace Go.Proofs.Ytmhkhbdichlklaa.P
open Go.RowKit Go.Proofs.YtmhkhbdichlklaaW.PrintWords Go.Proofs.YtmhkhbdichlklaaW.PrintLast Go.Proofs.YtmhkhbdichlklaaW.PrintMore
attribute [local go_sem] max2_int min2_int max_two min_two max_three min_three max_four min_four   -- for this text's walks alone
set_option linter.unusedVariables false
set_option linter.unusedSimpArgs false

/-! ### inflate_Lengths: function 25 -/
def inflate_Lengths.j0 : Nat → Int → Bool → Option (Int × Int)
  | 0, _, _ => none
  | k + 1, x0, x6 => if x6 = true then (some (0, 0)) else (if x0 = 285 then (some (258, 0)) else (if x0 < 265 then (some (wrap64 (x0 - 254), 0)) else (if 0 ≤ ((wrap64 (x0 - 261)) / 4) then (some (wrap64 (3 + (shl .i64 (wrap64 (4 + (Go.bits .and .i64 (wrap64 (x0 - 261)) 3))) ((wrap64 (x0 - 261)) / 4))), (wrap64 (x0 - 261)) / 4)) else (none))))
def inflate_Lengths.f (k : Nat) (a0 : Int) : Option (Int × Int) := if a0 < 257 then (inflate_Lengths.j0 k a0 true) else (inflate_Lengths.j0 k a0 (decide (a0 ≥ 286)))
theorem inflate_Lengths.mono_l : ∀ k, (∀ y0 y1, LeO (inflate_Lengths.j0 k y0 y1) (inflate_Lengths.j0 (k + 1) y0 y1))
  | 0 => fun _ _ r h => by simp [inflate_Lengths.j0] at h
  | k + 1 => by
    have ih0 := inflate_Lengths.mono_l k
    · intro y0 y1
      unfold inflate_Lengths.j0
      repeat' first
      | (with_reducible exact ih0 _ _)
      | (with_reducible exact LeO.refl _)
      | (with_reducible exact LeO.none _)
      | (with_reducible refine LeO.ite ?_ ?_)
      | (with_reducible refine LeO.bind ?_ (fun _ => ?_))
      | exact ih0 _ _
      | exact LeO.none _
      | refine LeO.ite ?_ ?_
      | refine LeO.bind ?_ (fun _ => ?_)
theorem inflate_Lengths.mono : ∀ a0 k, LeO (inflate_Lengths.f k a0) (inflate_Lengths.f (k + 1) a0) := by
  intro a0 k
  have ih0 := inflate_Lengths.mono_l k
  unfold inflate_Lengths.f
  repeat' first
      | (with_reducible exact ih0 _ _)
      | (with_reducible exact LeO.refl _)
      | (with_reducible exact LeO.none _)
      | (with_reducible refine LeO.ite ?_ ?_)
      | (with_reducible refine LeO.bind ?_ (fun _ => ?_))
      | exact ih0 _ _
      | exact LeO.none _
      | refine LeO.ite ?_ ?_
      | refine LeO.bind ?_ (fun _ => ?_)
set_option maxHeartbeats 8000000 in
set_option maxRecDepth 100000 in
theorem inflate_Lengths.calls (k : Nat) (a0 : Int) (r1 : Int) (r2 : Int) (w : World) (h : inflate_Lengths.f k a0 = some (r1, r2)) :
    Calls Try.prog 25 #[.int .i64 a0] w fun e w' => e = .returned (.tuple #[.int .i64 r1, .int .i64 r2]) ∧ Drawn0 w w' := by
  have H : (if a0 < 257 then (inflate_Lengths.j0 k a0 true) else (inflate_Lengths.j0 k a0 (decide (a0 ≥ 286)))) = some (r1, r2) := h
  clear h
  have HC2 := Aside0.mk H
  clear H
  go_enter Try.func25, Try.ntmps25
  go_upto_region 1 with (fail)
  go_cut [6] (fun v6 wc => ∃ (kq : Nat) (x6_1 : Bool), v6 = .bool x6_1 ∧ Aside0 (inflate_Lengths.j0 kq a0 x6_1 = some (r1, r2)) ∧ Aside0 (kq ≤ k) ∧ Drawn0 w wc)
  case first =>
    have H := HC2.out
    clear HC2
    by_cases c3 : a0 < 257
    · rw [if_pos c3] at H
      have c3b0 : decide (a0 < 257) = true := decide_eq_true c3
      clear c3
      (first | rw [c3b0] | (simp only [i64_w, i32_w]; rw [c3b0]) | skip)
      have H' := Aside0.mk H
      clear H
      go_wp2
      go_meet
      case rel => exact ⟨_, (true), (by first | rfl | (simp; done) | (simp [*]; done)), H', ⟨by first | omega | exact Nat.le_refl _⟩, by repeat (first | exact Drawn0.refl _ | apply Drawn0.step)⟩
    · rw [if_neg c3] at H
      have c3b0 : decide (a0 < 257) = false := decide_eq_false c3
      clear c3
      (first | rw [c3b0] | (simp only [i64_w, i32_w]; rw [c3b0]) | skip)
      have H' := Aside0.mk H
      clear H
      go_wp2
      go_meet
      case rel => exact ⟨_, (decide (a0 ≥ 286)), (by first | rfl | (simp; done) | (simp [*]; done)), H', ⟨by first | omega | exact Nat.le_refl _⟩, by repeat (first | exact Drawn0.refl _ | apply Drawn0.step)⟩
  case rest =>
    clear HC2
    try clear c2
    try clear p2
    try clear c3
    try clear c3b0
    obtain ⟨kq, x6_1, rfl, HA, HJ1, ⟨mc1, rfl⟩⟩ := hcut
    cases kq with
    | zero => exact absurd HA.out (by simp [inflate_Lengths.j0])
    | succ kj1 =>
      have H := HA.out
      clear HA
      simp only [inflate_Lengths.j0] at H
      by_cases c4 : x6_1 = true
      · subst c4
        have H1 : (some (0, 0)) = some (r1, r2) := by rw [if_pos rfl] at H; exact H
        clear H
        have H := H1
        clear H1
        simp only [Option.some.injEq, Prod.mk.injEq] at H
        obtain ⟨rfl, rfl⟩ := H
        go_wp2
        go_ret2
        exact ⟨by first | rfl | (simp; done) | (simp [*]; done), by repeat (first | exact Drawn0.refl _ | apply Drawn0.step)⟩
      · replace c4 := Bool.eq_false_iff.mpr c4
        subst c4
        have H1 : (if a0 = 285 then (some (258, 0)) else (if a0 < 265 then (some (wrap64 (a0 - 254), 0)) else (if 0 ≤ ((wrap64 (a0 - 261)) / 4) then (some (wrap64 (3 + (shl .i64 (wrap64 (4 + (Go.bits .and .i64 (wrap64 (a0 - 261)) 3))) ((wrap64 (a0 - 261)) / 4))), (wrap64 (a0 - 261)) / 4)) else (none)))) = some (r1, r2) := by rw [if_neg (show ¬ (false = true) by decide)] at H; exact H
        clear H
        have H := H1
        clear H1
        by_cases c5 : a0 = 285
        · rw [if_pos c5] at H
          have c5b0 : (a0 == 285) = true := beq_iff_eq.mpr c5
          have c5b1 : (a0 != 285) = false := bne_eq_false_iff_eq.mpr c5
          clear c5
          simp only [Option.some.injEq, Prod.mk.injEq] at H
          obtain ⟨rfl, rfl⟩ := H
          go_wp2
          go_ret2
          exact ⟨by first | rfl | (simp; done) | (simp [*]; done), by repeat (first | exact Drawn0.refl _ | apply Drawn0.step)⟩
        · rw [if_neg c5] at H
          have c5b0 : (a0 == 285) = false := beq_eq_false_iff_ne.mpr c5
          have c5b1 : (a0 != 285) = true := bne_iff_ne.mpr c5
          by_cases c6 : a0 < 265
          · rw [if_pos c6] at H
            have c6b0 : decide (a0 < 265) = true := decide_eq_true c6
            clear c6
            simp only [Option.some.injEq, Prod.mk.injEq] at H
            obtain ⟨rfl, rfl⟩ := H
            go_wp2
            go_ret2
            exact ⟨by first | rfl | (simp; done) | (simp [*]; done), by repeat (first | exact Drawn0.refl _ | apply Drawn0.step)⟩
          · rw [if_neg c6] at H
            have c6b0 : decide (a0 < 265) = false := decide_eq_false c6
            clear c6
            obtain ⟨ji7, hji7⟩ : ∃ j_ : Int, ((wrap64 (a0 - 261)) / 4) = j_ := ⟨_, rfl⟩
            replace H : (if 0 ≤ (ji7) then (some (wrap64 (3 + (shl .i64 (wrap64 (4 + (Go.bits .and .i64 (wrap64 (a0 - 261)) 3))) (ji7))), ji7)) else (none)) = some (r1, r2) := by first | (rw [hji7] at H; exact H) | (simp only [hji7] at H ⊢; exact H)
            by_cases c8 : 0 ≤ (ji7)
            · rw [if_pos c8] at H
              have c8b0 := eq_true c8
              have c8b1 : decide (0 ≤ (ji7)) = true := decide_eq_true c8
              clear c8
              obtain ⟨ji9, hji9⟩ : ∃ j_ : Int, (shl .i64 (wrap64 (4 + (Go.bits .and .i64 (wrap64 (a0 - 261)) 3))) (ji7)) = j_ := ⟨_, rfl⟩
              replace H : (some (wrap64 (3 + (ji9)), ji7)) = some (r1, r2) := by first | (rw [hji9] at H; exact H) | (simp only [hji9] at H ⊢; exact H)
              have hji9_ : (IntKind.i64.wrap ((wrap64 (4 + (Go.bits .and .i64 (wrap64 (a0 - 261)) 3))) * 2 ^ min (ji7).toNat 64)) = ji9 := hji9
              have hji9z : (ji7) ≤ 64 → (IntKind.i64.wrap ((wrap64 (4 + (Go.bits .and .i64 (wrap64 (a0 - 261)) 3))) * 2 ^ (ji7).toNat)) = ji9 := shl_small hji9
              have hji9y : (wrap64 ((wrap64 (4 + (Go.bits .and .i64 (wrap64 (a0 - 261)) 3))) * 2 ^ min (ji7).toNat 64)) = ji9 := (i64_w _).symm.trans hji9_
              have hji9x : (ji7) ≤ 64 → (wrap64 ((wrap64 (4 + (Go.bits .and .i64 (wrap64 (a0 - 261)) 3))) * 2 ^ (ji7).toNat)) = ji9 := fun h_ => (i64_w _).symm.trans (hji9z h_)
              simp only [Option.some.injEq, Prod.mk.injEq] at H
              obtain ⟨rfl, rfl⟩ := H
              go_wp2
              go_ret2
              exact ⟨by first | rfl | (simp; done) | (simp only [← hji7, ← hji9] <;> (first | rfl | simp)) | (simp [*]; done), by repeat (first | exact Drawn0.refl _ | apply Drawn0.step)⟩
            · rw [if_neg c8] at H
              exact absurd H (by simp)

end Go.Proofs.Ytmhkhbdichlklaa.P
