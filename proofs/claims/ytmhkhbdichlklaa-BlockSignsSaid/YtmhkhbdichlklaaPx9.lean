/- Written by a program of this session (wip/print2: a patched copy of a printer), not by print.sh: Lean functions with the answers of the Go functions, and the proofs of that; no condition beside those that stand in each theorem. -/
import Derived.Test.YtmhkhbdichlklaaPx0
import Derived.Test.YtmhkhbdichlklaaPx8
namespace Go.Proofs.Ytmhkhbdichlklaa.P
open Go.RowKit Go.Proofs.YtmhkhbdichlklaaW.PrintWords Go.Proofs.YtmhkhbdichlklaaW.PrintLast Go.Proofs.YtmhkhbdichlklaaW.PrintMore
attribute [local go_sem] max2_int min2_int max_two min_two max_three min_three max_four min_four   -- for this text's walks alone
set_option linter.unusedVariables false
set_option linter.unusedSimpArgs false

/-! ### portmanteauref08_Distance: function 11 -/
mutual
def portmanteauref08_Distance.l0 : Nat → Int → Int → Option (Int × Int × Int)
  | 0, _, _ => none
  | k + 1, x0, x5 => if x5 < 30 then ((portmanteauref06_Far.f k x5).bind fun bt113 => (portmanteauref08_Distance.l1 k x0 x5 bt113.1 bt113.2 1 0)) else (some ((-1), 0, 0))
def portmanteauref08_Distance.l1 : Nat → Int → Int → Int → Int → Int → Int → Option (Int × Int × Int)
  | 0, _, _, _, _, _, _ => none
  | k + 1, x0, x5, x6, x7, x8, x9 => if x9 < x7 then (portmanteauref08_Distance.l1 k x0 x5 x6 x7 (wrap64 (x8 * 2)) (wrap64 (x9 + 1))) else (if x0 ≥ x6 then (if x0 < (wrap64 (x6 + x8)) then (some (x5, x7, (wrap64 (x0 - x6)) % 4294967296)) else (portmanteauref08_Distance.l0 k x0 (wrap64 (x5 + 1)))) else (portmanteauref08_Distance.l0 k x0 (wrap64 (x5 + 1))))
end
def portmanteauref08_Distance.f (k : Nat) (a0 : Int) : Option (Int × Int × Int) := portmanteauref08_Distance.l0 k a0 0
theorem portmanteauref08_Distance.mono_l : ∀ k, (∀ y0 y1, LeO (portmanteauref08_Distance.l0 k y0 y1) (portmanteauref08_Distance.l0 (k + 1) y0 y1)) ∧ (∀ y0 y1 y2 y3 y4 y5, LeO (portmanteauref08_Distance.l1 k y0 y1 y2 y3 y4 y5) (portmanteauref08_Distance.l1 (k + 1) y0 y1 y2 y3 y4 y5))
  | 0 => ⟨fun _ _ r h => by simp [portmanteauref08_Distance.l0] at h, fun _ _ _ _ _ _ r h => by simp [portmanteauref08_Distance.l1] at h⟩
  | k + 1 => by
    obtain ⟨ih0, ih1⟩ := portmanteauref08_Distance.mono_l k
    refine ⟨?_, ?_⟩
    · intro y0 y1
      unfold portmanteauref08_Distance.l0
      repeat' first
      | (with_reducible exact ih0 _ _)
      | (with_reducible exact ih1 _ _ _ _ _ _)
      | (with_reducible exact portmanteauref06_Far.mono _ _)
      | (with_reducible exact LeO.refl _)
      | (with_reducible exact LeO.none _)
      | (with_reducible refine LeO.ite ?_ ?_)
      | (with_reducible refine LeO.bind ?_ (fun _ => ?_))
      | exact ih0 _ _
      | exact ih1 _ _ _ _ _ _
      | exact portmanteauref06_Far.mono _ _
      | exact LeO.none _
      | refine LeO.ite ?_ ?_
      | refine LeO.bind ?_ (fun _ => ?_)
    · intro y0 y1 y2 y3 y4 y5
      unfold portmanteauref08_Distance.l1
      repeat' first
      | (with_reducible exact ih0 _ _)
      | (with_reducible exact ih1 _ _ _ _ _ _)
      | (with_reducible exact portmanteauref06_Far.mono _ _)
      | (with_reducible exact LeO.refl _)
      | (with_reducible exact LeO.none _)
      | (with_reducible refine LeO.ite ?_ ?_)
      | (with_reducible refine LeO.bind ?_ (fun _ => ?_))
      | exact ih0 _ _
      | exact ih1 _ _ _ _ _ _
      | exact portmanteauref06_Far.mono _ _
      | exact LeO.none _
      | refine LeO.ite ?_ ?_
      | refine LeO.bind ?_ (fun _ => ?_)
theorem portmanteauref08_Distance.mono : ∀ a0 k, LeO (portmanteauref08_Distance.f k a0) (portmanteauref08_Distance.f (k + 1) a0) := by
  intro a0 k
  obtain ⟨ih0, ih1⟩ := portmanteauref08_Distance.mono_l k
  unfold portmanteauref08_Distance.f
  repeat' first
      | (with_reducible exact ih0 _ _)
      | (with_reducible exact ih1 _ _ _ _ _ _)
      | (with_reducible exact portmanteauref06_Far.mono _ _)
      | (with_reducible exact LeO.refl _)
      | (with_reducible exact LeO.none _)
      | (with_reducible refine LeO.ite ?_ ?_)
      | (with_reducible refine LeO.bind ?_ (fun _ => ?_))
      | exact ih0 _ _
      | exact ih1 _ _ _ _ _ _
      | exact portmanteauref06_Far.mono _ _
      | exact LeO.none _
      | refine LeO.ite ?_ ?_
      | refine LeO.bind ?_ (fun _ => ?_)
set_option maxHeartbeats 8000000 in
set_option maxRecDepth 100000 in
theorem portmanteauref08_Distance.calls (k : Nat) (a0 : Int) (r1 : Int) (r2 : Int) (r3 : Int) (w : World) (h : portmanteauref08_Distance.f k a0 = some (r1, r2, r3)) :
    Calls Try.prog 11 #[.int .i64 a0] w fun e w' => e = .returned (.tuple #[.int .i64 r1, .int .i64 r2, .int .u32 r3]) ∧ Drawn0 w w' := by
  have H : (portmanteauref08_Distance.l0 k a0 0) = some (r1, r2, r3) := h
  clear h
  have H' := Aside0.mk H
  clear H
  go_enter Try.func11, Try.ntmps11
  go_wp2
  go_loopg [5] k (fun kq v5 w' => ∃ (x5_1 : Int), v5 = .int .i64 x5_1 ∧ Aside0 (portmanteauref08_Distance.l0 kq a0 x5_1 = some (r1, r2, r3)) ∧ Aside0 (kq ≤ k) ∧ Drawn0 w w')
  case atStart => exact ⟨(0), (by first | rfl | (simp; done) | (simp [*]; done)), H', ⟨Nat.le_refl _⟩, by repeat (first | exact Drawn0.refl _ | apply Drawn0.step)⟩
  case round =>
    clear H'
    try clear c1
    obtain ⟨x5_1, rfl, HA, HK1, ⟨m1, rfl⟩⟩ := hrel
    cases gk with
    | zero => exact absurd HA.out (by simp [portmanteauref08_Distance.l0])
    | succ k1 =>
      have H := HA.out
      clear HA
      simp only [portmanteauref08_Distance.l0] at H
      by_cases c2 : x5_1 < 30
      · rw [if_pos c2] at H
        have c2b0 : decide (x5_1 < 30) = true := decide_eq_true c2
        clear c2
        replace H := Option.bind_eq_some_iff.mp H
        obtain ⟨⟨t113, t114⟩, A30, H⟩ := H
        replace H : (portmanteauref08_Distance.l1 k1 a0 x5_1 t113 t114 1 0) = some (r1, r2, r3) := H
        have A3 := Aside0.mk A30
        clear A30
        have H' := Aside0.mk H
        clear H
        go_wp2_with (first | ((with_reducible refine gate_callee (f := 28) rfl ?_); refine goesL_ (some 16) rfl rfl Try.func28 (by kernel_rfl) rfl #[.int .i64 x5_1] rfl (by (try simp only [List.map_toArray, List.map_cons, List.map_nil]); first | done | rfl | (simp only [List.length_drop, List.length_take]; rfl)) ?_; (with_reducible refine (portmanteauref06_Far.calls k1 x5_1 t113 t114 _ A3.out).mono ?_); rintro e w' ⟨rfl, ⟨nd, rfl⟩⟩; refine ⟨_, rfl, ?_⟩))
        go_loopg [8, 9] k1 (fun kq v8 v9 w' => ∃ (x8_2 : Int) (x9_2 : Int), v8 = .int .i64 x8_2 ∧ v9 = .int .i64 x9_2 ∧ Aside0 (portmanteauref08_Distance.l1 kq a0 x5_1 t113 t114 x8_2 x9_2 = some (r1, r2, r3)) ∧ Aside0 (kq ≤ k1) ∧ Drawn0 w w')
        case atStart => exact ⟨(1), (0), (by first | rfl | (simp; done) | (simp [*]; done)), (by first | rfl | (simp; done) | (simp [*]; done)), H', ⟨Nat.le_refl _⟩, by repeat (first | exact Drawn0.refl _ | apply Drawn0.step)⟩
        case round =>
          clear H'
          try clear c1
          try clear c2
          try clear c2b0
          try clear p2
          obtain ⟨x8_2, x9_2, rfl, rfl, HA, HK2, ⟨m2, rfl⟩⟩ := hrel
          cases gk with
          | zero => exact absurd HA.out (by simp [portmanteauref08_Distance.l1])
          | succ k2 =>
            have H := HA.out
            clear HA
            simp only [portmanteauref08_Distance.l1] at H
            by_cases c4 : x9_2 < t114
            · rw [if_pos c4] at H
              have c4b0 : decide (x9_2 < t114) = true := decide_eq_true c4
              clear c4
              have H' := Aside0.mk H
              clear H
              go_wp2
              go_roundg k2
              case measure => have := HK1.out; have := HK2.out; omega
              case rel => exact ⟨(wrap64 (x8_2 * 2)), (wrap64 (x9_2 + 1)), (by first | rfl | (simp; done) | (simp [*]; done)), (by first | rfl | (simp; done) | (simp [*]; done)), H', ⟨by have := HK1.out; have := HK2.out; omega⟩, by repeat (first | exact Drawn0.refl _ | apply Drawn0.step)⟩
            · rw [if_neg c4] at H
              have c4b0 : decide (x9_2 < t114) = false := decide_eq_false c4
              clear c4
              by_cases c5 : a0 ≥ t113
              · rw [if_pos c5] at H
                have c5b0 : decide (t113 ≤ a0) = true := decide_eq_true c5
                clear c5
                by_cases c6 : a0 < (wrap64 (t113 + x8_2))
                · rw [if_pos c6] at H
                  have c6b0 : decide (a0 < (wrap64 (t113 + x8_2))) = true := decide_eq_true c6
                  clear c6
                  simp only [Option.some.injEq, Prod.mk.injEq] at H
                  obtain ⟨rfl, rfl, rfl⟩ := H
                  go_wp2
                  go_ret3
                  exact ⟨by first | rfl | (simp; done) | (simp [*]; done), by repeat (first | exact Drawn0.refl _ | apply Drawn0.step)⟩
                · rw [if_neg c6] at H
                  have c6b0 : decide (a0 < (wrap64 (t113 + x8_2))) = false := decide_eq_false c6
                  clear c6
                  have H' := Aside0.mk H
                  clear H
                  go_wp2
                  go_roundg k2
                  case measure => have := HK1.out; have := HK2.out; omega
                  case rel => exact ⟨(wrap64 (x5_1 + 1)), (by first | rfl | (simp; done) | (simp [*]; done)), H', ⟨by have := HK1.out; have := HK2.out; omega⟩, by repeat (first | exact Drawn0.refl _ | apply Drawn0.step)⟩
              · rw [if_neg c5] at H
                have c5b0 : decide (t113 ≤ a0) = false := decide_eq_false c5
                clear c5
                have H' := Aside0.mk H
                clear H
                go_wp2
                go_roundg k2
                case measure => have := HK1.out; have := HK2.out; omega
                case rel => exact ⟨(wrap64 (x5_1 + 1)), (by first | rfl | (simp; done) | (simp [*]; done)), H', ⟨by have := HK1.out; have := HK2.out; omega⟩, by repeat (first | exact Drawn0.refl _ | apply Drawn0.step)⟩
      · rw [if_neg c2] at H
        have c2b0 : decide (x5_1 < 30) = false := decide_eq_false c2
        clear c2
        simp only [Option.some.injEq, Prod.mk.injEq] at H
        obtain ⟨rfl, rfl, rfl⟩ := H
        go_wp2
        go_ret3
        exact ⟨by first | rfl | (simp; done) | (simp [*]; done), by repeat (first | exact Drawn0.refl _ | apply Drawn0.step)⟩

end Go.Proofs.Ytmhkhbdichlklaa.P
