/- Written by a program of this session (wip/print2: a patched copy of a printer), not by print.sh: Lean functions with the answers of the Go functions, and the proofs of that; no condition beside those that stand in each theorem. -/
import Derived.Test.YtdbekngboogaoaaPx0
namespace Go.Proofs.Ytdbekngboogaoaa.P
open Go.RowKit Go.Proofs.YtdbekngboogaoaaW.PrintWords Go.Proofs.YtdbekngboogaoaaW.PrintLast Go.Proofs.YtdbekngboogaoaaW.PrintMore
attribute [local go_sem] max2_int min2_int max_two min_two max_three min_three max_four min_four   -- for this text's walks alone
set_option linter.unusedVariables false
set_option linter.unusedSimpArgs false

/-! ### bits_Turn: function 9 -/
mutual
def bits_Turn.j0 : Nat → Int → Int → Bool → Option (Int)
  | 0, _, _, _ => none
  | k + 1, x0, x1, x12 => if x12 = true then (some 0) else (bits_Turn.l0 k x0 x1 0 x1 0)
def bits_Turn.l0 : Nat → Int → Int → Int → Int → Int → Option (Int)
  | 0, _, _, _, _, _ => none
  | k + 1, x0, x1, x5, x13, x14 => if x14 < x13 then (if 0 ≤ x14 then (if 0 ≤ (wrap64 ((wrap64 (x1 - 1)) - x14)) then (bits_Turn.l0 k x0 x1 (Go.bits .or .u32 x5 (shl .u32 (Go.bits .and .u32 (shr .u32 x0 x14) 1) (wrap64 ((wrap64 (x1 - 1)) - x14)))) x13 (wrap64 (x14 + 1))) else (none)) else (none)) else (some x5)
end
def bits_Turn.f (k : Nat) (a0 : Int) (a1 : Int) : Option (Int) := if a1 < 1 then (bits_Turn.j0 k a0 a1 true) else (bits_Turn.j0 k a0 a1 (decide (a1 > 32)))
theorem bits_Turn.mono_l : ∀ k, (∀ y0 y1 y2, LeO (bits_Turn.j0 k y0 y1 y2) (bits_Turn.j0 (k + 1) y0 y1 y2)) ∧ (∀ y0 y1 y2 y3 y4, LeO (bits_Turn.l0 k y0 y1 y2 y3 y4) (bits_Turn.l0 (k + 1) y0 y1 y2 y3 y4))
  | 0 => ⟨fun _ _ _ r h => by simp [bits_Turn.j0] at h, fun _ _ _ _ _ r h => by simp [bits_Turn.l0] at h⟩
  | k + 1 => by
    obtain ⟨ih0, ih1⟩ := bits_Turn.mono_l k
    refine ⟨?_, ?_⟩
    · intro y0 y1 y2
      unfold bits_Turn.j0
      repeat' first
      | (with_reducible exact ih0 _ _ _)
      | (with_reducible exact ih1 _ _ _ _ _)
      | (with_reducible exact LeO.refl _)
      | (with_reducible exact LeO.none _)
      | (with_reducible refine LeO.ite ?_ ?_)
      | (with_reducible refine LeO.bind ?_ (fun _ => ?_))
      | exact ih0 _ _ _
      | exact ih1 _ _ _ _ _
      | exact LeO.none _
      | refine LeO.ite ?_ ?_
      | refine LeO.bind ?_ (fun _ => ?_)
    · intro y0 y1 y2 y3 y4
      unfold bits_Turn.l0
      repeat' first
      | (with_reducible exact ih0 _ _ _)
      | (with_reducible exact ih1 _ _ _ _ _)
      | (with_reducible exact LeO.refl _)
      | (with_reducible exact LeO.none _)
      | (with_reducible refine LeO.ite ?_ ?_)
      | (with_reducible refine LeO.bind ?_ (fun _ => ?_))
      | exact ih0 _ _ _
      | exact ih1 _ _ _ _ _
      | exact LeO.none _
      | refine LeO.ite ?_ ?_
      | refine LeO.bind ?_ (fun _ => ?_)
theorem bits_Turn.mono : ∀ a0 a1 k, LeO (bits_Turn.f k a0 a1) (bits_Turn.f (k + 1) a0 a1) := by
  intro a0 a1 k
  obtain ⟨ih0, ih1⟩ := bits_Turn.mono_l k
  unfold bits_Turn.f
  repeat' first
      | (with_reducible exact ih0 _ _ _)
      | (with_reducible exact ih1 _ _ _ _ _)
      | (with_reducible exact LeO.refl _)
      | (with_reducible exact LeO.none _)
      | (with_reducible refine LeO.ite ?_ ?_)
      | (with_reducible refine LeO.bind ?_ (fun _ => ?_))
      | exact ih0 _ _ _
      | exact ih1 _ _ _ _ _
      | exact LeO.none _
      | refine LeO.ite ?_ ?_
      | refine LeO.bind ?_ (fun _ => ?_)
set_option maxHeartbeats 8000000 in
set_option maxRecDepth 100000 in
theorem bits_Turn.calls (k : Nat) (a0 : Int) (a1 : Int) (r : Int) (w : World) (h : bits_Turn.f k a0 a1 = some r) :
    Calls Try.prog 9 #[.int .u32 a0, .int .i64 a1] w fun e w' => e = .returned (.int .u32 r) ∧ Drawn0 w w' := by
  have H : (if a1 < 1 then (bits_Turn.j0 k a0 a1 true) else (bits_Turn.j0 k a0 a1 (decide (a1 > 32)))) = some r := h
  clear h
  have HC3 := Aside0.mk H
  clear H
  go_enter Try.func9, Try.ntmps9
  go_upto_region 1 with (fail)
  go_cut [12] (fun v12 wc => ∃ (kq : Nat) (x12_2 : Bool), v12 = .bool x12_2 ∧ Aside0 (bits_Turn.j0 kq a0 a1 x12_2 = some r) ∧ Aside0 (kq ≤ k) ∧ Drawn0 w wc)
  case first =>
    have H := HC3.out
    clear HC3
    by_cases c4 : a1 < 1
    · rw [if_pos c4] at H
      have c4b0 : decide (a1 < 1) = true := decide_eq_true c4
      clear c4
      (first | rw [c4b0] | (simp only [i64_w, i32_w]; rw [c4b0]) | skip)
      have H' := Aside0.mk H
      clear H
      go_wp2
      go_meet
      case rel => exact ⟨_, (true), (by first | rfl | (simp; done) | (simp [*]; done)), H', ⟨by first | omega | exact Nat.le_refl _⟩, by repeat (first | exact Drawn0.refl _ | apply Drawn0.step)⟩
    · rw [if_neg c4] at H
      have c4b0 : decide (a1 < 1) = false := decide_eq_false c4
      clear c4
      (first | rw [c4b0] | (simp only [i64_w, i32_w]; rw [c4b0]) | skip)
      have H' := Aside0.mk H
      clear H
      go_wp2
      go_meet
      case rel => exact ⟨_, (decide (a1 > 32)), (by first | rfl | (simp; done) | (simp [*]; done)), H', ⟨by first | omega | exact Nat.le_refl _⟩, by repeat (first | exact Drawn0.refl _ | apply Drawn0.step)⟩
  case rest =>
    clear HC3
    try clear p2
    try clear c4
    try clear c4b0
    obtain ⟨kq, x12_2, rfl, HA, HJ2, ⟨mc2, rfl⟩⟩ := hcut
    cases kq with
    | zero => exact absurd HA.out (by simp [bits_Turn.j0])
    | succ kj2 =>
      have H := HA.out
      clear HA
      simp only [bits_Turn.j0] at H
      by_cases c5 : x12_2 = true
      · subst c5
        have H1 : (some 0) = some r := by rw [if_pos rfl] at H; exact H
        clear H
        have H := H1
        clear H1
        obtain rfl := Option.some.inj H
        go_wp2
        go_ret
        exact ⟨by first | rfl | (simp; done) | (simp [*]; done), by repeat (first | exact Drawn0.refl _ | apply Drawn0.step)⟩
      · replace c5 := Bool.eq_false_iff.mpr c5
        subst c5
        have H1 : (bits_Turn.l0 kj2 a0 a1 0 a1 0) = some r := by rw [if_neg (show ¬ (false = true) by decide)] at H; exact H
        clear H
        have H := H1
        clear H1
        have H' := Aside0.mk H
        clear H
        go_wp2
        go_loopg [5, 14] kj2 (fun kq v5 v14 w' => ∃ (x5_2 : Int) (x14_2 : Int), v5 = .int .u32 x5_2 ∧ v14 = .int .i64 x14_2 ∧ Aside0 (bits_Turn.l0 kq a0 a1 x5_2 a1 x14_2 = some r) ∧ Aside0 (kq ≤ kj2) ∧ Drawn0 w w')
        case atStart => exact ⟨(0), (0), (by first | rfl | (simp; done) | (simp [*]; done)), (by first | rfl | (simp; done) | (simp [*]; done)), H', ⟨Nat.le_refl _⟩, by repeat (first | exact Drawn0.refl _ | apply Drawn0.step)⟩
        case round =>
          clear H'
          try clear c2
          try clear p2
          try clear c4
          try clear c4b0
          try clear c5
          try clear p2
          obtain ⟨x5_2, x14_2, rfl, rfl, HA, HK2, ⟨m2, rfl⟩⟩ := hrel
          cases gk with
          | zero => exact absurd HA.out (by simp [bits_Turn.l0])
          | succ k2 =>
            have H := HA.out
            clear HA
            simp only [bits_Turn.l0] at H
            by_cases c6 : x14_2 < a1
            · rw [if_pos c6] at H
              have c6b0 : decide (x14_2 < a1) = true := decide_eq_true c6
              clear c6
              by_cases c7 : 0 ≤ x14_2
              · rw [if_pos c7] at H
                have c7b0 := eq_true c7
                have c7b1 : decide (0 ≤ x14_2) = true := decide_eq_true c7
                clear c7
                obtain ⟨ji8, hji8⟩ : ∃ j_ : Int, (shr .u32 a0 x14_2) = j_ := ⟨_, rfl⟩
                replace H : (if 0 ≤ (wrap64 ((wrap64 (a1 - 1)) - x14_2)) then (bits_Turn.l0 k2 a0 a1 (Go.bits .or .u32 x5_2 (shl .u32 (Go.bits .and .u32 (ji8) 1) (wrap64 ((wrap64 (a1 - 1)) - x14_2)))) a1 (wrap64 (x14_2 + 1))) else (none)) = some r := by first | (rw [hji8] at H; exact H) | (simp only [hji8] at H ⊢; exact H)
                have hji8_ : (a0 / 2 ^ min x14_2.toNat 32) = ji8 := hji8
                have hji8z : x14_2 ≤ 32 → (a0 / 2 ^ x14_2.toNat) = ji8 := shr_small hji8
                obtain ⟨ji9, hji9⟩ : ∃ j_ : Int, (wrap64 ((wrap64 (a1 - 1)) - x14_2)) = j_ := ⟨_, rfl⟩
                replace H : (if 0 ≤ (ji9) then (bits_Turn.l0 k2 a0 a1 (Go.bits .or .u32 x5_2 (shl .u32 (Go.bits .and .u32 (ji8) 1) (ji9))) a1 (wrap64 (x14_2 + 1))) else (none)) = some r := by first | (rw [hji9] at H; exact H) | (simp only [hji9] at H ⊢; exact H)
                have hji9w : (IntKind.i64.wrap ((wrap64 (a1 - 1)) - x14_2)) = ji9 := (i64_w _).trans hji9
                by_cases c10 : 0 ≤ (ji9)
                · rw [if_pos c10] at H
                  have c10b0 := eq_true c10
                  have c10b1 : decide (0 ≤ (ji9)) = true := decide_eq_true c10
                  clear c10
                  obtain ⟨ji11, hji11⟩ : ∃ j_ : Int, (shl .u32 (Go.bits .and .u32 (ji8) 1) (ji9)) = j_ := ⟨_, rfl⟩
                  replace H : (bits_Turn.l0 k2 a0 a1 (Go.bits .or .u32 x5_2 (ji11)) a1 (wrap64 (x14_2 + 1))) = some r := by first | (rw [hji11] at H; exact H) | (simp only [hji11] at H ⊢; exact H)
                  have hji11_ : (IntKind.u32.wrap ((Go.bits .and .u32 (ji8) 1) * 2 ^ min (ji9).toNat 32)) = ji11 := hji11
                  have hji11z : (ji9) ≤ 32 → (IntKind.u32.wrap ((Go.bits .and .u32 (ji8) 1) * 2 ^ (ji9).toNat)) = ji11 := shl_small hji11
                  have H' := Aside0.mk H
                  clear H
                  go_wp2
                  go_roundg k2
                  case measure => have := HJ2.out; have := HK2.out; omega
                  case rel => exact ⟨(Go.bits .or .u32 x5_2 (ji11)), (wrap64 (x14_2 + 1)), (by first | rfl | (simp; done) | (simp only [← hji11] <;> (first | rfl | simp)) | (simp [*]; done)), (by first | rfl | (simp; done) | (simp [*]; done)), H', ⟨by have := HJ2.out; have := HK2.out; omega⟩, by repeat (first | exact Drawn0.refl _ | apply Drawn0.step)⟩
                · rw [if_neg c10] at H
                  exact absurd H (by simp)
              · rw [if_neg c7] at H
                exact absurd H (by simp)
            · rw [if_neg c6] at H
              have c6b0 : decide (x14_2 < a1) = false := decide_eq_false c6
              clear c6
              obtain rfl := Option.some.inj H
              go_wp2
              go_ret
              exact ⟨by first | rfl | (simp; done) | (simp [*]; done), by repeat (first | exact Drawn0.refl _ | apply Drawn0.step)⟩

end Go.Proofs.Ytdbekngboogaoaa.P
