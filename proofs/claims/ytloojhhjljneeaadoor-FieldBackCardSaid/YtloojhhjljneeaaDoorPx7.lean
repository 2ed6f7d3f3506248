/- Written by a program of this session (wip/print2: a patched copy of a printer), not by print.sh: Lean functions with the answers of the Go functions, and the proofs of that; no condition beside those that stand in each theorem. -/
import Derived.Test.YtloojhhjljneeaaDoorPx0
import Derived.Test.YtloojhhjljneeaaDoorPx6
namespace Go.Proofs.YtloojhhjljneeaaDoor.P
open Go.RowKit Go.Proofs.YtloojhhjljneeaaDoorW.PrintWords Go.Proofs.YtloojhhjljneeaaDoorW.PrintLast Go.Proofs.YtloojhhjljneeaaDoorW.PrintMore
attribute [local go_sem] max2_int min2_int max_two min_two max_three min_three max_four min_four   -- for this text's walks alone
set_option linter.unusedVariables false
set_option linter.unusedSimpArgs false

/-! ### portmanteauref02_Update: function 37 -/
def portmanteauref02_Update.l0 : Nat → Int → ByteArray → Int → Option (Int)
  | 0, _, _, _ => none
  | k + 1, x0, x1, x5 => if x5 < (x1.size : Int) then (if 0 ≤ x5 then ((portmanteauref02_Byte.f k (Go.bits .xor .u32 x0 ((bt x1 x5) % 4294967296))).bind fun t159 => (portmanteauref02_Update.l0 k t159 x1 (wrap64 (x5 + 1)))) else (none)) else (some ((4294967295 - x0) % 4294967296))
def portmanteauref02_Update.f (k : Nat) (a0 : Int) (a1 : ByteArray) : Option (Int) := portmanteauref02_Update.l0 k ((4294967295 - a0) % 4294967296) a1 0
theorem portmanteauref02_Update.mono_l : ∀ k, (∀ y0 y1 y2, LeO (portmanteauref02_Update.l0 k y0 y1 y2) (portmanteauref02_Update.l0 (k + 1) y0 y1 y2))
  | 0 => fun _ _ _ r h => by simp [portmanteauref02_Update.l0] at h
  | k + 1 => by
    have ih0 := portmanteauref02_Update.mono_l k
    · intro y0 y1 y2
      unfold portmanteauref02_Update.l0
      repeat' first
      | (with_reducible exact ih0 _ _ _)
      | (with_reducible exact portmanteauref02_Byte.mono _ _)
      | (with_reducible exact LeO.refl _)
      | (with_reducible exact LeO.none _)
      | (with_reducible refine LeO.ite ?_ ?_)
      | (with_reducible refine LeO.bind ?_ (fun _ => ?_))
      | exact ih0 _ _ _
      | exact portmanteauref02_Byte.mono _ _
      | exact LeO.none _
      | refine LeO.ite ?_ ?_
      | refine LeO.bind ?_ (fun _ => ?_)
theorem portmanteauref02_Update.mono : ∀ a0 a1 k, LeO (portmanteauref02_Update.f k a0 a1) (portmanteauref02_Update.f (k + 1) a0 a1) := by
  intro a0 a1 k
  have ih0 := portmanteauref02_Update.mono_l k
  unfold portmanteauref02_Update.f
  repeat' first
      | (with_reducible exact ih0 _ _ _)
      | (with_reducible exact portmanteauref02_Byte.mono _ _)
      | (with_reducible exact LeO.refl _)
      | (with_reducible exact LeO.none _)
      | (with_reducible refine LeO.ite ?_ ?_)
      | (with_reducible refine LeO.bind ?_ (fun _ => ?_))
      | exact ih0 _ _ _
      | exact portmanteauref02_Byte.mono _ _
      | exact LeO.none _
      | refine LeO.ite ?_ ?_
      | refine LeO.bind ?_ (fun _ => ?_)
set_option maxHeartbeats 8000000 in
set_option maxRecDepth 100000 in
theorem portmanteauref02_Update.calls (k : Nat) (a0 : Int) (a1 : ByteArray) (r : Int) (w : World) (h : portmanteauref02_Update.f k a0 a1 = some r) :
    Calls Tryd.prog 37 #[.int .u32 a0, .string a1] w fun e w' => e = .returned (.int .u32 r) ∧ Drawn0 w w' := by
  have H : (portmanteauref02_Update.l0 k ((4294967295 - a0) % 4294967296) a1 0) = some r := h
  clear h
  have H' := Aside0.mk H
  clear H
  go_enter Tryd.func37, Tryd.ntmps37
  go_wp2
  go_loopg [0, 5] k (fun kq v0 v5 w' => ∃ (x0_1 : Int) (x5_1 : Int), v0 = .int .u32 x0_1 ∧ v5 = .int .i64 x5_1 ∧ Aside0 (portmanteauref02_Update.l0 kq x0_1 a1 x5_1 = some r) ∧ Aside0 (kq ≤ k) ∧ Drawn0 w w')
  case atStart => exact ⟨((4294967295 - a0) % 4294967296), (0), (by first | rfl | (simp; done) | (simp [*]; done)), (by first | rfl | (simp; done) | (simp [*]; done)), H', ⟨Nat.le_refl _⟩, by repeat (first | exact Drawn0.refl _ | apply Drawn0.step)⟩
  case round =>
    clear H'
    try clear p2
    obtain ⟨x0_1, x5_1, rfl, rfl, HA, HK1, ⟨m1, rfl⟩⟩ := hrel
    cases gk with
    | zero => exact absurd HA.out (by simp [portmanteauref02_Update.l0])
    | succ k1 =>
      have H := HA.out
      clear HA
      simp only [portmanteauref02_Update.l0] at H
      by_cases c3 : x5_1 < (a1.size : Int)
      · rw [if_pos c3] at H
        have c3b0 : decide (x5_1 < (a1.size : Int)) = true := decide_eq_true c3
        clear c3
        by_cases c4 : 0 ≤ x5_1
        · rw [if_pos c4] at H
          have c4b0 : decide (0 ≤ x5_1) = true := decide_eq_true c4
          clear c4
          replace H := Option.bind_eq_some_iff.mp H
          obtain ⟨t159, A60, H⟩ := H
          replace H : (portmanteauref02_Update.l0 k1 t159 a1 (wrap64 (x5_1 + 1))) = some r := H
          have A6 := Aside0.mk A60
          clear A60
          have H' := Aside0.mk H
          clear H
          have p5 : 0 ≤ (x5_1 : Int) := of_decide_eq_true (by first | (with_reducible assumption) | assumption)
          have q5 : x5_1 < (a1.size : Int) := of_decide_eq_true (by first | (with_reducible assumption) | assumption)
          have hx5 := bt_at a1 x5_1
          replace p5 := eq_true p5
          replace q5 := eq_true q5
          go_wp2_with (first | ((with_reducible refine gate_callee (f := 42) rfl ?_); refine goesL_ (some 20) rfl rfl Tryd.func42 (by kernel_rfl) rfl #[.int .u32 (Go.bits .xor .u32 x0_1 ((bt a1 x5_1) % 4294967296))] rfl (by (try simp only [List.map_toArray, List.map_cons, List.map_nil]); first | done | rfl | (simp only [List.length_drop, List.length_take]; rfl)) ?_; (with_reducible refine (portmanteauref02_Byte.calls k1 (Go.bits .xor .u32 x0_1 ((bt a1 x5_1) % 4294967296)) t159 _ A6.out).mono ?_); rintro e w' ⟨rfl, ⟨nd, rfl⟩⟩; refine ⟨_, rfl, ?_⟩))
          go_roundg k1
          case measure => have := HK1.out; omega
          case rel => exact ⟨(t159), (wrap64 (x5_1 + 1)), (by first | rfl | (simp; done) | (simp [*]; done)), (by first | rfl | (simp; done) | (simp [*]; done)), H', ⟨by have := HK1.out; omega⟩, by repeat (first | exact Drawn0.refl _ | apply Drawn0.step)⟩
        · rw [if_neg c4] at H
          exact absurd H (by simp)
      · rw [if_neg c3] at H
        have c3b0 : decide (x5_1 < (a1.size : Int)) = false := decide_eq_false c3
        clear c3
        obtain rfl := Option.some.inj H
        go_wp2
        go_ret
        exact ⟨by first | rfl | (simp; done) | (simp [*]; done), by repeat (first | exact Drawn0.refl _ | apply Drawn0.step)⟩

/-! ### portmanteauref02_Sum: function 26 -/
def portmanteauref02_Sum.f (k : Nat) (a0 : ByteArray) : Option (Int) := (portmanteauref02_Update.f k 0 a0).bind fun t160 => (some t160)
theorem portmanteauref02_Sum.mono : ∀ a0 k, LeO (portmanteauref02_Sum.f k a0) (portmanteauref02_Sum.f (k + 1) a0) := by
  intro a0 k
  unfold portmanteauref02_Sum.f
  repeat' first
      | (with_reducible exact portmanteauref02_Update.mono _ _ _)
      | (with_reducible exact LeO.refl _)
      | (with_reducible exact LeO.none _)
      | (with_reducible refine LeO.ite ?_ ?_)
      | (with_reducible refine LeO.bind ?_ (fun _ => ?_))
      | exact portmanteauref02_Update.mono _ _ _
      | exact LeO.none _
      | refine LeO.ite ?_ ?_
      | refine LeO.bind ?_ (fun _ => ?_)
set_option maxHeartbeats 8000000 in
set_option maxRecDepth 100000 in
theorem portmanteauref02_Sum.calls (k : Nat) (a0 : ByteArray) (r : Int) (w : World) (h : portmanteauref02_Sum.f k a0 = some r) :
    Calls Tryd.prog 26 #[.string a0] w fun e w' => e = .returned (.int .u32 r) ∧ Drawn0 w w' := by
  have H : ((portmanteauref02_Update.f k 0 a0).bind fun t160 => (some t160)) = some r := h
  clear h
  replace H := Option.bind_eq_some_iff.mp H
  obtain ⟨t160, A20, H⟩ := H
  replace H : (some t160) = some r := H
  have A2 := Aside0.mk A20
  clear A20
  obtain rfl := Option.some.inj H
  go_enter Tryd.func26, Tryd.ntmps26
  go_wp2_with (first | ((with_reducible refine gate_callee (f := 37) rfl ?_); refine goesL_ (some 4) rfl rfl Tryd.func37 (by kernel_rfl) rfl #[.int .u32 0, .string a0] rfl (by (try simp only [List.map_toArray, List.map_cons, List.map_nil]); first | done | rfl | (simp only [List.length_drop, List.length_take]; rfl)) ?_; (with_reducible refine (portmanteauref02_Update.calls k 0 a0 t160 _ A2.out).mono ?_); rintro e w' ⟨rfl, ⟨nd, rfl⟩⟩; refine ⟨_, rfl, ?_⟩))
  go_ret
  exact ⟨by first | rfl | (simp; done) | (simp [*]; done), by repeat (first | exact Drawn0.refl _ | apply Drawn0.step)⟩

end Go.Proofs.YtloojhhjljneeaaDoor.P
