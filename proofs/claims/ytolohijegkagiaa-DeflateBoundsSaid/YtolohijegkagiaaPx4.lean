/- Written by a program of this session (wip/print2: a patched copy of a printer), not by print.sh: Lean functions with the answers of the Go functions, and the proofs of that; no condition beside those that stand in each theorem. -/
import Derived.Test.YtolohijegkagiaaPx0
namespace Go.Proofs.Ytolohijegkagiaa.P
open Go.RowKit Go.Proofs.YtolohijegkagiaaW.PrintWords Go.Proofs.YtolohijegkagiaaW.PrintLast Go.Proofs.YtolohijegkagiaaW.PrintMore
attribute [local go_sem] max2_int min2_int max_two min_two max_three min_three max_four min_four   -- for this text's walks alone
set_option linter.unusedVariables false
set_option linter.unusedSimpArgs false

/-! ### portmanteauref09_Bound: function 9 -/
mutual
def portmanteauref09_Bound.j0 : Nat → Int → Option (Int)
  | 0, _ => none
  | k + 1, x0 => if x0 > 1048576 then (portmanteauref09_Bound.j1 k 1048576) else (portmanteauref09_Bound.j1 k x0)
def portmanteauref09_Bound.j1 : Nat → Int → Option (Int)
  | 0, _ => none
  | k + 1, x0 => portmanteauref09_Bound.l0 k x0 (wrap64 (x0 + 5))
def portmanteauref09_Bound.l0 : Nat → Int → Int → Option (Int)
  | 0, _, _ => none
  | k + 1, x0, x3 => if x0 > 0 then (portmanteauref09_Bound.l0 k (wrap64 (x0 - 32768)) (wrap64 (x3 + 5))) else (some x3)
end
def portmanteauref09_Bound.f (k : Nat) (a0 : Int) : Option (Int) := if a0 < 0 then (portmanteauref09_Bound.j0 k 0) else (portmanteauref09_Bound.j0 k a0)
theorem portmanteauref09_Bound.mono_l : ∀ k, (∀ y0, LeO (portmanteauref09_Bound.j0 k y0) (portmanteauref09_Bound.j0 (k + 1) y0)) ∧ (∀ y0, LeO (portmanteauref09_Bound.j1 k y0) (portmanteauref09_Bound.j1 (k + 1) y0)) ∧ (∀ y0 y1, LeO (portmanteauref09_Bound.l0 k y0 y1) (portmanteauref09_Bound.l0 (k + 1) y0 y1))
  | 0 => ⟨fun _ r h => by simp [portmanteauref09_Bound.j0] at h, fun _ r h => by simp [portmanteauref09_Bound.j1] at h, fun _ _ r h => by simp [portmanteauref09_Bound.l0] at h⟩
  | k + 1 => by
    obtain ⟨ih0, ih1, ih2⟩ := portmanteauref09_Bound.mono_l k
    refine ⟨?_, ?_, ?_⟩
    · intro y0
      unfold portmanteauref09_Bound.j0
      repeat' first
      | (with_reducible exact ih0 _)
      | (with_reducible exact ih1 _)
      | (with_reducible exact ih2 _ _)
      | (with_reducible exact LeO.refl _)
      | (with_reducible exact LeO.none _)
      | (with_reducible refine LeO.ite ?_ ?_)
      | (with_reducible refine LeO.bind ?_ (fun _ => ?_))
      | exact ih0 _
      | exact ih1 _
      | exact ih2 _ _
      | exact LeO.none _
      | refine LeO.ite ?_ ?_
      | refine LeO.bind ?_ (fun _ => ?_)
    · intro y0
      unfold portmanteauref09_Bound.j1
      repeat' first
      | (with_reducible exact ih0 _)
      | (with_reducible exact ih1 _)
      | (with_reducible exact ih2 _ _)
      | (with_reducible exact LeO.refl _)
      | (with_reducible exact LeO.none _)
      | (with_reducible refine LeO.ite ?_ ?_)
      | (with_reducible refine LeO.bind ?_ (fun _ => ?_))
      | exact ih0 _
      | exact ih1 _
      | exact ih2 _ _
      | exact LeO.none _
      | refine LeO.ite ?_ ?_
      | refine LeO.bind ?_ (fun _ => ?_)
    · intro y0 y1
      unfold portmanteauref09_Bound.l0
      repeat' first
      | (with_reducible exact ih0 _)
      | (with_reducible exact ih1 _)
      | (with_reducible exact ih2 _ _)
      | (with_reducible exact LeO.refl _)
      | (with_reducible exact LeO.none _)
      | (with_reducible refine LeO.ite ?_ ?_)
      | (with_reducible refine LeO.bind ?_ (fun _ => ?_))
      | exact ih0 _
      | exact ih1 _
      | exact ih2 _ _
      | exact LeO.none _
      | refine LeO.ite ?_ ?_
      | refine LeO.bind ?_ (fun _ => ?_)
theorem portmanteauref09_Bound.mono : ∀ a0 k, LeO (portmanteauref09_Bound.f k a0) (portmanteauref09_Bound.f (k + 1) a0) := by
  intro a0 k
  obtain ⟨ih0, ih1, ih2⟩ := portmanteauref09_Bound.mono_l k
  unfold portmanteauref09_Bound.f
  repeat' first
      | (with_reducible exact ih0 _)
      | (with_reducible exact ih1 _)
      | (with_reducible exact ih2 _ _)
      | (with_reducible exact LeO.refl _)
      | (with_reducible exact LeO.none _)
      | (with_reducible refine LeO.ite ?_ ?_)
      | (with_reducible refine LeO.bind ?_ (fun _ => ?_))
      | exact ih0 _
      | exact ih1 _
      | exact ih2 _ _
      | exact LeO.none _
      | refine LeO.ite ?_ ?_
      | refine LeO.bind ?_ (fun _ => ?_)
set_option maxHeartbeats 8000000 in
set_option maxRecDepth 100000 in
theorem portmanteauref09_Bound.calls (k : Nat) (a0 : Int) (r : Int) (w : World) (h : portmanteauref09_Bound.f k a0 = some r) :
    Calls Try.prog 9 #[.int .i64 a0] w fun e w' => e = .returned (.int .i64 r) ∧ Drawn0 w w' := by
  have H : (if a0 < 0 then (portmanteauref09_Bound.j0 k 0) else (portmanteauref09_Bound.j0 k a0)) = some r := h
  clear h
  have HC2 := Aside0.mk H
  clear H
  go_enter Try.func9, Try.ntmps9
  go_upto_if 5 with (fail)
  go_cut [0] (fun v0 wc => ∃ (kq : Nat) (x0_1 : Int), v0 = .int .i64 x0_1 ∧ Aside0 (portmanteauref09_Bound.j0 kq x0_1 = some r) ∧ Aside0 (kq ≤ k) ∧ Drawn0 w wc)
  case first =>
    have H := HC2.out
    clear HC2
    by_cases c3 : a0 < 0
    · rw [if_pos c3] at H
      have c3b0 : decide (a0 < 0) = true := decide_eq_true c3
      clear c3
      (first | rw [c3b0] | (simp only [i64_w, i32_w]; rw [c3b0]) | skip)
      have H' := Aside0.mk H
      clear H
      go_wp2
      go_meet
      case rel => exact ⟨_, (0), (by first | rfl | (simp; done) | (simp [*]; done)), H', ⟨by first | omega | exact Nat.le_refl _⟩, by repeat (first | exact Drawn0.refl _ | apply Drawn0.step)⟩
    · rw [if_neg c3] at H
      have c3b0 : decide (a0 < 0) = false := decide_eq_false c3
      clear c3
      (first | rw [c3b0] | (simp only [i64_w, i32_w]; rw [c3b0]) | skip)
      have H' := Aside0.mk H
      clear H
      go_wp2
      go_meet
      case rel => exact ⟨_, (a0), (by first | rfl | (simp; done) | (simp [*]; done)), H', ⟨by first | omega | exact Nat.le_refl _⟩, by repeat (first | exact Drawn0.refl _ | apply Drawn0.step)⟩
  case rest =>
    clear HC2
    try clear p2
    try clear c3
    try clear c3b0
    obtain ⟨kq, x0_1, rfl, HA, HJ1, ⟨mc1, rfl⟩⟩ := hcut
    cases kq with
    | zero => exact absurd HA.out (by simp [portmanteauref09_Bound.j0])
    | succ kj1 =>
      have H := HA.out
      clear HA
      simp only [portmanteauref09_Bound.j0] at H
      have HC4 := Aside0.mk H
      clear H
      go_upto_if 7 with (fail)
      go_cut [0] (fun v0 wc => ∃ (kq : Nat) (x0_3 : Int), v0 = .int .i64 x0_3 ∧ Aside0 (portmanteauref09_Bound.j1 kq x0_3 = some r) ∧ Aside0 (kq ≤ kj1) ∧ Drawn0 w wc)
      case first =>
        have H := HC4.out
        clear HC4
        by_cases c5 : x0_1 > 1048576
        · rw [if_pos c5] at H
          have c5b0 : decide (1048576 < x0_1) = true := decide_eq_true c5
          clear c5
          (first | rw [c5b0] | (simp only [i64_w, i32_w]; rw [c5b0]) | skip)
          have H' := Aside0.mk H
          clear H
          go_wp2
          go_meet
          case rel => exact ⟨_, (1048576), (by first | rfl | (simp; done) | (simp [*]; done)), H', ⟨by have := HJ1.out; first | omega | exact Nat.le_refl _⟩, by repeat (first | exact Drawn0.refl _ | apply Drawn0.step)⟩
        · rw [if_neg c5] at H
          have c5b0 : decide (1048576 < x0_1) = false := decide_eq_false c5
          clear c5
          (first | rw [c5b0] | (simp only [i64_w, i32_w]; rw [c5b0]) | skip)
          have H' := Aside0.mk H
          clear H
          go_wp2
          go_meet
          case rel => exact ⟨_, (x0_1), (by first | rfl | (simp; done) | (simp [*]; done)), H', ⟨by have := HJ1.out; first | omega | exact Nat.le_refl _⟩, by repeat (first | exact Drawn0.refl _ | apply Drawn0.step)⟩
      case rest =>
        clear HC4
        try clear c1
        try clear p2
        try clear c3
        try clear c3b0
        try clear c5
        try clear c5b0
        try clear p2
        obtain ⟨kq, x0_3, rfl, HA, HJ3, ⟨mc3, rfl⟩⟩ := hcut
        cases kq with
        | zero => exact absurd HA.out (by simp [portmanteauref09_Bound.j1])
        | succ kj3 =>
          have H := HA.out
          clear HA
          simp only [portmanteauref09_Bound.j1] at H
          have H' := Aside0.mk H
          clear H
          go_wp2
          go_loopg [0, 3] kj3 (fun kq v0 v3 w' => ∃ (x0_3 : Int) (x3_3 : Int), v0 = .int .i64 x0_3 ∧ v3 = .int .i64 x3_3 ∧ Aside0 (portmanteauref09_Bound.l0 kq x0_3 x3_3 = some r) ∧ Aside0 (kq ≤ kj3) ∧ Drawn0 w w')
          case atStart => exact ⟨(x0_3), (wrap64 (x0_3 + 5)), (by first | rfl | (simp; done) | (simp [*]; done)), (by first | rfl | (simp; done) | (simp [*]; done)), H', ⟨Nat.le_refl _⟩, by repeat (first | exact Drawn0.refl _ | apply Drawn0.step)⟩
          case round =>
            clear H'
            try clear c1
            try clear p2
            try clear c3
            try clear c3b0
            try clear c5
            try clear c5b0
            try clear p2
            obtain ⟨x0_3, x3_3, rfl, rfl, HA, HK3, ⟨m3, rfl⟩⟩ := hrel
            cases gk with
            | zero => exact absurd HA.out (by simp [portmanteauref09_Bound.l0])
            | succ k3 =>
              have H := HA.out
              clear HA
              simp only [portmanteauref09_Bound.l0] at H
              by_cases c6 : x0_3 > 0
              · rw [if_pos c6] at H
                have c6b0 : decide (0 < x0_3) = true := decide_eq_true c6
                clear c6
                have H' := Aside0.mk H
                clear H
                go_wp2
                go_roundg k3
                case measure => have := HJ1.out; have := HJ3.out; have := HK3.out; omega
                case rel => exact ⟨(wrap64 (x0_3 - 32768)), (wrap64 (x3_3 + 5)), (by first | rfl | (simp; done) | (simp [*]; done)), (by first | rfl | (simp; done) | (simp [*]; done)), H', ⟨by have := HJ1.out; have := HJ3.out; have := HK3.out; omega⟩, by repeat (first | exact Drawn0.refl _ | apply Drawn0.step)⟩
              · rw [if_neg c6] at H
                have c6b0 : decide (0 < x0_3) = false := decide_eq_false c6
                clear c6
                obtain rfl := Option.some.inj H
                go_wp2
                go_ret
                exact ⟨by first | rfl | (simp; done) | (simp [*]; done), by repeat (first | exact Drawn0.refl _ | apply Drawn0.step)⟩

end Go.Proofs.Ytolohijegkagiaa.P
