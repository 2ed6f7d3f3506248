/- Written by a program of this session (wip/print2: a patched copy of a printer), not by print.sh: Lean functions with the answers of the Go functions, and the proofs of that; no condition beside those that stand in each theorem. -/
import Derived.Test.YtegdnkhpkealoaaPx0
import Derived.Test.YtegdnkhpkealoaaPx1
namespace Go.Proofs.Ytegdnkhpkealoaa.P
open Go.RowKit Go.Proofs.YtegdnkhpkealoaaW.PrintWords Go.Proofs.YtegdnkhpkealoaaW.PrintLast Go.Proofs.YtegdnkhpkealoaaW.PrintMore
attribute [local go_sem] max2_int min2_int max_two min_two max_three min_three max_four min_four   -- for this text's walks alone
set_option linter.unusedVariables false
set_option linter.unusedSimpArgs false

/-! ### cursor_Number: function 8 -/
def cursor_Number.f (k : Nat) (a0 : ByteArray) : Option (Int × Int) := if (a0.size : Int) > 8 then (some (0, 5)) else ((cursor_number.f k a0).bind fun t101 => (some (t101, 0)))
theorem cursor_Number.mono : ∀ a0 k, LeO (cursor_Number.f k a0) (cursor_Number.f (k + 1) a0) := by
  intro a0 k
  unfold cursor_Number.f
  repeat' first
      | (with_reducible exact cursor_number.mono _ _)
      | (with_reducible exact LeO.refl _)
      | (with_reducible exact LeO.none _)
      | (with_reducible refine LeO.ite ?_ ?_)
      | (with_reducible refine LeO.bind ?_ (fun _ => ?_))
      | exact cursor_number.mono _ _
      | exact LeO.none _
      | refine LeO.ite ?_ ?_
      | refine LeO.bind ?_ (fun _ => ?_)
set_option maxHeartbeats 8000000 in
set_option maxRecDepth 100000 in
theorem cursor_Number.calls (k : Nat) (a0 : ByteArray) (r1 : Int) (r2 : Int) (w : World) (h : cursor_Number.f k a0 = some (r1, r2)) :
    Calls Try.prog 8 #[.string a0] w fun e w' => e = .returned (.tuple #[.int .u64 r1, .int .i64 r2]) ∧ Drawn0 w w' := by
  have H : (if (a0.size : Int) > 8 then (some (0, 5)) else ((cursor_number.f k a0).bind fun t101 => (some (t101, 0)))) = some (r1, r2) := h
  clear h
  by_cases c2 : (a0.size : Int) > 8
  · rw [if_pos c2] at H
    have c2b0 : decide (8 < (a0.size : Int)) = true := decide_eq_true c2
    have c2b1 : decide (8 < a0.size) = true := decide_eq_true (by omega)
    clear c2
    simp only [Option.some.injEq, Prod.mk.injEq] at H
    obtain ⟨rfl, rfl⟩ := H
    go_enter Try.func8, Try.ntmps8
    go_wp2
    go_ret2
    exact ⟨by first | rfl | (simp; done) | (simp [*]; done), by repeat (first | exact Drawn0.refl _ | apply Drawn0.step)⟩
  · rw [if_neg c2] at H
    have c2b0 : decide (8 < (a0.size : Int)) = false := decide_eq_false c2
    have c2b1 : decide (8 < a0.size) = false := decide_eq_false (by omega)
    clear c2
    replace H := Option.bind_eq_some_iff.mp H
    obtain ⟨t101, A30, H⟩ := H
    replace H : (some (t101, 0)) = some (r1, r2) := H
    have A3 := Aside0.mk A30
    clear A30
    simp only [Option.some.injEq, Prod.mk.injEq] at H
    obtain ⟨rfl, rfl⟩ := H
    go_enter Try.func8, Try.ntmps8
    go_wp2_with (first | ((with_reducible refine gate_callee (f := 28) rfl ?_); refine goesL_ (some 8) rfl rfl Try.func28 (by kernel_rfl) rfl #[.string a0] rfl (by (try simp only [List.map_toArray, List.map_cons, List.map_nil]); first | done | rfl | (simp only [List.length_drop, List.length_take]; rfl)) ?_; (with_reducible refine (cursor_number.calls k a0 t101 _ A3.out).mono ?_); rintro e w' ⟨rfl, ⟨nd, rfl⟩⟩; refine ⟨_, rfl, ?_⟩))
    go_ret2
    exact ⟨by first | rfl | (simp; done) | (simp [*]; done), by repeat (first | exact Drawn0.refl _ | apply Drawn0.step)⟩

end Go.Proofs.Ytegdnkhpkealoaa.P
