import Derived.Test.YtdooampgkiodjaaPx0
namespace Go.Proofs.Ytdooampgkiodjaa.P
open Go.RowKit Go.Proofs.YtdooampgkiodjaaW.PrintWords Go.Proofs.YtdooampgkiodjaaW.PrintLast Go.Proofs.YtdooampgkiodjaaW.PrintMore
attribute [local go_sem] max2_int min2_int max_two min_two max_three min_three max_four min_four
set_option linter.unusedVariables false
set_option linter.unusedSimpArgs false
def tail_agree.f (a0 : Int) (a1 : Int) (a2 : Int) : Option (Bool) := if a0 = a1 then (some true) else (some (a0 == a2))
set_option maxHeartbeats 8000000 in
set_option maxRecDepth 100000 in
theorem tail_agree.calls (a0 : Int) (a1 : Int) (a2 : Int) (r : Bool) (w : World) (h : tail_agree.f a0 a1 a2 = some r) :
    Calls Try.prog 19 #[.int .u64 a0, .int .u64 a1, .int .u64 a2] w fun e w' => e = .returned (.bool r) ∧ Drawn0 w w' := by
  have H : (if a0 = a1 then (some true) else (some (a0 == a2))) = some r := h
  clear h
  by_cases c4 : a0 = a1
  · rw [if_pos c4] at H
    have c4b0 : (a0 == a1) = true := beq_iff_eq.mpr c4
    have c4b1 : (a0 != a1) = false := bne_eq_false_iff_eq.mpr c4
    clear c4
    obtain rfl := Option.some.inj H
    go_enter Try.func19, Try.ntmps19
    go_wp2
    go_ret
    exact ⟨by first | rfl | (simp; done) | (simp [*]; done), by repeat (first | exact Drawn0.refl _ | apply Drawn0.step)⟩
  · rw [if_neg c4] at H
    have c4b0 : (a0 == a1) = false := beq_eq_false_iff_ne.mpr c4
    have c4b1 : (a0 != a1) = true := bne_iff_ne.mpr c4
    obtain rfl := Option.some.inj H
    go_enter Try.func19, Try.ntmps19
    go_wp2
    go_ret
    exact ⟨by first | rfl | (simp; done) | (simp [*]; done), by repeat (first | exact Drawn0.refl _ | apply Drawn0.step)⟩
end Go.Proofs.Ytdooampgkiodjaa.P
