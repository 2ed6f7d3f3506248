/- Written by a program of this session (wip/print2: a patched copy of a printer), not by print.sh: Lean functions with the answers of the Go functions, and the proofs of that; no condition beside those that stand in each theorem. -/
import Derived.Test.YtmhkhbdichlklaaPx0
namespace Go.Proofs.Ytmhkhbdichlklaa.P
open Go.RowKit Go.Proofs.YtmhkhbdichlklaaW.PrintWords Go.Proofs.YtmhkhbdichlklaaW.PrintLast Go.Proofs.YtmhkhbdichlklaaW.PrintMore
attribute [local go_sem] max2_int min2_int max_two min_two max_three min_three max_four min_four   -- for this text's walks alone
set_option linter.unusedVariables false
set_option linter.unusedSimpArgs false

/-! ### inflate_Distances: function 27 -/
def inflate_Distances.j0 : Nat → Int → Bool → Option (Int × Int)
  | 0, _, _ => none
  | k + 1, x0, x5 => if x5 = true then (some (0, 0)) else (if x0 < 4 then (some (wrap64 (x0 + 1), 0)) else (if 0 ≤ (wrap64 ((x0 / 2) - 1)) then (some (wrap64 (1 + (shl .i64 (wrap64 (2 + (Go.bits .and .i64 x0 1))) (wrap64 ((x0 / 2) - 1)))), wrap64 ((x0 / 2) - 1))) else (none)))
def inflate_Distances.f (k : Nat) (a0 : Int) : Option (Int × Int) := if a0 < 0 then (inflate_Distances.j0 k a0 true) else (inflate_Distances.j0 k a0 (decide (a0 ≥ 30)))
theorem inflate_Distances.mono_l : ∀ k, (∀ y0 y1, LeO (inflate_Distances.j0 k y0 y1) (inflate_Distances.j0 (k + 1) y0 y1))
  | 0 => fun _ _ r h => by simp [inflate_Distances.j0] at h
  | k + 1 => by
    have ih0 := inflate_Distances.mono_l k
    · intro y0 y1
      unfold inflate_Distances.j0
      repeat' first
      | (with_reducible exact ih0 _ _)
      | (with_reducible exact LeO.refl _)
      | (with_reducible exact LeO.none _)
      | (with_reducible refine LeO.ite ?_ ?_)
      | (with_reducible refine LeO.bind ?_ (fun _ => ?_))
      | exact ih0 _ _
      | exact LeO.none _
      | refine LeO.ite ?_ ?_
      | refine LeO.bind ?_ (fun _ => ?_)
theorem inflate_Distances.mono : ∀ a0 k, LeO (inflate_Distances.f k a0) (inflate_Distances.f (k + 1) a0) := by
  intro a0 k
  have ih0 := inflate_Distances.mono_l k
  unfold inflate_Distances.f
  repeat' first
      | (with_reducible exact ih0 _ _)
      | (with_reducible exact LeO.refl _)
      | (with_reducible exact LeO.none _)
      | (with_reducible refine LeO.ite ?_ ?_)
      | (with_reducible refine LeO.bind ?_ (fun _ => ?_))
      | exact ih0 _ _
      | exact LeO.none _
      | refine LeO.ite ?_ ?_
      | refine LeO.bind ?_ (fun _ => ?_)
set_option maxHeartbeats 8000000 in
set_option maxRecDepth 100000 in
theorem inflate_Distances.calls (k : Nat) (a0 : Int) (r1 : Int) (r2 : Int) (w : World) (h : inflate_Distances.f k a0 = some (r1, r2)) :
    Calls Try.prog 27 #[.int .i64 a0] w fun e w' => e = .returned (.tuple #[.int .i64 r1, .int .i64 r2]) ∧ Drawn0 w w' := by
  have H : (if a0 < 0 then (inflate_Distances.j0 k a0 true) else (inflate_Distances.j0 k a0 (decide (a0 ≥ 30)))) = some (r1, r2) := h
  clear h
  have HC2 := Aside0.mk H
  clear H
  go_enter Try.func27, Try.ntmps27
  go_upto_region 1 with (fail)
  go_cut [5] (fun v5 wc => ∃ (kq : Nat) (x5_1 : Bool), v5 = .bool x5_1 ∧ Aside0 (inflate_Distances.j0 kq a0 x5_1 = some (r1, r2)) ∧ Aside0 (kq ≤ k) ∧ Drawn0 w wc)
  case first =>
    have H := HC2.out
    clear HC2
    by_cases c3 : a0 < 0
    · rw [if_pos c3] at H
      have c3b0 : decide (a0 < 0) = true := decide_eq_true c3
      clear c3
      (first | rw [c3b0] | (simp only [i64_w, i32_w]; rw [c3b0]) | skip)
      have H' := Aside0.mk H
      clear H
      go_wp2
      go_meet
      case rel => exact ⟨_, (true), (by first | rfl | (simp; done) | (simp [*]; done)), H', ⟨by first | omega | exact Nat.le_refl _⟩, by repeat (first | exact Drawn0.refl _ | apply Drawn0.step)⟩
    · rw [if_neg c3] at H
      have c3b0 : decide (a0 < 0) = false := decide_eq_false c3
      clear c3
      (first | rw [c3b0] | (simp only [i64_w, i32_w]; rw [c3b0]) | skip)
      have H' := Aside0.mk H
      clear H
      go_wp2
      go_meet
      case rel => exact ⟨_, (decide (a0 ≥ 30)), (by first | rfl | (simp; done) | (simp [*]; done)), H', ⟨by first | omega | exact Nat.le_refl _⟩, by repeat (first | exact Drawn0.refl _ | apply Drawn0.step)⟩
  case rest =>
    clear HC2
    try clear c2
    try clear p2
    try clear c3
    try clear c3b0
    obtain ⟨kq, x5_1, rfl, HA, HJ1, ⟨mc1, rfl⟩⟩ := hcut
    cases kq with
    | zero => exact absurd HA.out (by simp [inflate_Distances.j0])
    | succ kj1 =>
      have H := HA.out
      clear HA
      simp only [inflate_Distances.j0] at H
      by_cases c4 : x5_1 = true
      · subst c4
        have H1 : (some (0, 0)) = some (r1, r2) := by rw [if_pos rfl] at H; exact H
        clear H
        have H := H1
        clear H1
        simp only [Option.some.injEq, Prod.mk.injEq] at H
        obtain ⟨rfl, rfl⟩ := H
        go_wp2
        go_ret2
        exact ⟨by first | rfl | (simp; done) | (simp [*]; done), by repeat (first | exact Drawn0.refl _ | apply Drawn0.step)⟩
      · replace c4 := Bool.eq_false_iff.mpr c4
        subst c4
        have H1 : (if a0 < 4 then (some (wrap64 (a0 + 1), 0)) else (if 0 ≤ (wrap64 ((a0 / 2) - 1)) then (some (wrap64 (1 + (shl .i64 (wrap64 (2 + (Go.bits .and .i64 a0 1))) (wrap64 ((a0 / 2) - 1)))), wrap64 ((a0 / 2) - 1))) else (none))) = some (r1, r2) := by rw [if_neg (show ¬ (false = true) by decide)] at H; exact H
        clear H
        have H := H1
        clear H1
        by_cases c5 : a0 < 4
        · rw [if_pos c5] at H
          have c5b0 : decide (a0 < 4) = true := decide_eq_true c5
          clear c5
          simp only [Option.some.injEq, Prod.mk.injEq] at H
          obtain ⟨rfl, rfl⟩ := H
          go_wp2
          go_ret2
          exact ⟨by first | rfl | (simp; done) | (simp [*]; done), by repeat (first | exact Drawn0.refl _ | apply Drawn0.step)⟩
        · rw [if_neg c5] at H
          have c5b0 : decide (a0 < 4) = false := decide_eq_false c5
          clear c5
          obtain ⟨ji6, hji6⟩ : ∃ j_ : Int, (wrap64 ((a0 / 2) - 1)) = j_ := ⟨_, rfl⟩
          replace H : (if 0 ≤ (ji6) then (some (wrap64 (1 + (shl .i64 (wrap64 (2 + (Go.bits .and .i64 a0 1))) (ji6))), ji6)) else (none)) = some (r1, r2) := by first | (rw [hji6] at H; exact H) | (simp only [hji6] at H ⊢; exact H)
          have hji6w : (IntKind.i64.wrap ((a0 / 2) - 1)) = ji6 := (i64_w _).trans hji6
          by_cases c7 : 0 ≤ (ji6)
          · rw [if_pos c7] at H
            have c7b0 := eq_true c7
            have c7b1 : decide (0 ≤ (ji6)) = true := decide_eq_true c7
            clear c7
            obtain ⟨ji8, hji8⟩ : ∃ j_ : Int, (shl .i64 (wrap64 (2 + (Go.bits .and .i64 a0 1))) (ji6)) = j_ := ⟨_, rfl⟩
            replace H : (some (wrap64 (1 + (ji8)), ji6)) = some (r1, r2) := by first | (rw [hji8] at H; exact H) | (simp only [hji8] at H ⊢; exact H)
            have hji8_ : (IntKind.i64.wrap ((wrap64 (2 + (Go.bits .and .i64 a0 1))) * 2 ^ min (ji6).toNat 64)) = ji8 := hji8
            have hji8z : (ji6) ≤ 64 → (IntKind.i64.wrap ((wrap64 (2 + (Go.bits .and .i64 a0 1))) * 2 ^ (ji6).toNat)) = ji8 := shl_small hji8
            have hji8y : (wrap64 ((wrap64 (2 + (Go.bits .and .i64 a0 1))) * 2 ^ min (ji6).toNat 64)) = ji8 := (i64_w _).symm.trans hji8_
            have hji8x : (ji6) ≤ 64 → (wrap64 ((wrap64 (2 + (Go.bits .and .i64 a0 1))) * 2 ^ (ji6).toNat)) = ji8 := fun h_ => (i64_w _).symm.trans (hji8z h_)
            simp only [Option.some.injEq, Prod.mk.injEq] at H
            obtain ⟨rfl, rfl⟩ := H
            go_wp2
            go_ret2
            exact ⟨by first | rfl | (simp; done) | (simp only [← hji6, ← hji8] <;> (first | rfl | simp)) | (simp [*]; done), by repeat (first | exact Drawn0.refl _ | apply Drawn0.step)⟩
          · rw [if_neg c7] at H
            exact absurd H (by simp)

end Go.Proofs.Ytmhkhbdichlklaa.P
