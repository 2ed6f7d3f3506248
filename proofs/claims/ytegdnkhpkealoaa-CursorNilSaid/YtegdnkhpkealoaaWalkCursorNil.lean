/- CursorNil: a cursor that is none answers nothing, and says so: the walk through the law's own code. A closed sentence: no condition. -/
import Derived.Test.YtegdnkhpkealoaaNum
import Derived.Test.YtegdnkhpkealoaaAwake
import Derived.Test.YtegdnkhpkealoaaPx1
import Derived.Test.YtegdnkhpkealoaaPx5
namespace Go.Proofs.Ytegdnkhpkealoaa.Walk
set_option linter.unusedVariables false
set_option linter.unusedSimpArgs false
open Go Go.RowKit Go.Proofs.Ytegdnkhpkealoaa.P Go.Proofs.Ytegdnkhpkealoaa.B Go.Proofs.Ytegdnkhpkealoaa.Num Go.Proofs.YtegdnkhpkealoaaW.PrintWords Go.Proofs.YtegdnkhpkealoaaW.PrintLast Go.Proofs.YtegdnkhpkealoaaW.PrintMore

theorem number_nil (k : Nat) (hk : 8 < k) : cursor_number.f k (⟨#[]⟩ : ByteArray) = some 0 := by
  have := number_eq (⟨#[]⟩ : ByteArray) (by decide) k hk
  simpa [leN] using this
theorem take_nil (n : Int) (w : World) : Calls Try.prog 18 #[.pointer none, .int .i64 n] w fun e w' => e = .returned (.string ⟨#[]⟩) ∧ w' = w := by
  go_enter Try.func18, Try.ntmps18
  go_wp2
  go_ret
  exact ⟨rfl, rfl⟩
theorem peek_nil (n : Int) (w : World) : Calls Try.prog 21 #[.pointer none, .int .i64 n] w fun e w' => e = .returned (.string ⟨#[]⟩) ∧ Drawn0 w w' := by
  go_enter Try.func21, Try.ntmps21
  go_wp2
  repeat (go_quiet (fail); try go_wp2)
  go_ret
  exact ⟨rfl, ⟨_, rfl⟩⟩
theorem seek_nil (n : Int) (w : World) : Calls Try.prog 26 #[.pointer none, .int .i64 n] w fun e w' => e = .returned (.int .i64 1) ∧ w' = w := by
  go_enter Try.func26, Try.ntmps26
  go_wp2
  go_ret
  exact ⟨rfl, rfl⟩
theorem at_nil (w : World) : Calls Try.prog 23 #[.pointer none] w fun e w' => e = .returned (.int .i64 0) ∧ w' = w := by
  go_enter Try.func23, Try.ntmps23
  go_wp2
  go_ret
  exact ⟨rfl, rfl⟩
theorem left_nil (w : World) : Calls Try.prog 20 #[.pointer none] w fun e w' => e = .returned (.int .i64 0) ∧ w' = w := by
  go_enter Try.func20, Try.ntmps20
  go_wp2
  go_ret
  exact ⟨rfl, rfl⟩
theorem err_nil (w : World) : Calls Try.prog 22 #[.pointer none] w fun e w' => e = .returned (.int .i64 1) ∧ w' = w := by
  go_enter Try.func22, Try.ntmps22
  go_wp2
  go_ret
  exact ⟨rfl, rfl⟩
theorem one_nil (w : World) : Calls Try.prog 27 #[.pointer none] w fun e w' => e = .returned (.int .u8 0) ∧ Drawn0 w w' := by
  have hn := Aside0.mk (number_nil 9 (by omega))
  go_enter Try.func27, Try.ntmps27
  go_wp2_with (first
    | (go_at_call 18; refine (take_nil _ _).mono ?_; rintro e w1 ⟨rfl, rfl⟩)
    | (go_at_call 28; refine (cursor_number.calls 9 _ 0 _ hn.out).mono ?_; rintro e w1 ⟨rfl, ⟨nd, rfl⟩⟩))
  go_ret
  exact ⟨rfl, ⟨_, rfl⟩⟩
theorem two_nil (w : World) : Calls Try.prog 16 #[.pointer none] w fun e w' => e = .returned (.int .u16 0) ∧ Drawn0 w w' := by
  have hn := Aside0.mk (number_nil 9 (by omega))
  go_enter Try.func16, Try.ntmps16
  go_wp2_with (first
    | (go_at_call 18; refine (take_nil _ _).mono ?_; rintro e w1 ⟨rfl, rfl⟩)
    | (go_at_call 28; refine (cursor_number.calls 9 _ 0 _ hn.out).mono ?_; rintro e w1 ⟨rfl, ⟨nd, rfl⟩⟩))
  go_ret
  exact ⟨rfl, ⟨_, rfl⟩⟩
theorem four_nil (w : World) : Calls Try.prog 17 #[.pointer none] w fun e w' => e = .returned (.int .u32 0) ∧ Drawn0 w w' := by
  have hn := Aside0.mk (number_nil 9 (by omega))
  go_enter Try.func17, Try.ntmps17
  go_wp2_with (first
    | (go_at_call 18; refine (take_nil _ _).mono ?_; rintro e w1 ⟨rfl, rfl⟩)
    | (go_at_call 28; refine (cursor_number.calls 9 _ 0 _ hn.out).mono ?_; rintro e w1 ⟨rfl, ⟨nd, rfl⟩⟩))
  go_ret
  exact ⟨rfl, ⟨_, rfl⟩⟩
theorem eight_nil (w : World) : Calls Try.prog 19 #[.pointer none] w fun e w' => e = .returned (.int .u64 0) ∧ Drawn0 w w' := by
  have hn := Aside0.mk (number_nil 9 (by omega))
  go_enter Try.func19, Try.ntmps19
  go_wp2_with (first
    | (go_at_call 18; refine (take_nil _ _).mono ?_; rintro e w1 ⟨rfl, rfl⟩)
    | (go_at_call 28; refine (cursor_number.calls 9 _ 0 _ hn.out).mono ?_; rintro e w1 ⟨rfl, ⟨nd, rfl⟩⟩))
  go_ret
  exact ⟨rfl, ⟨_, rfl⟩⟩
set_option maxHeartbeats 4000000 in
set_option maxRecDepth 100000 in
theorem CursorNil (w : World) : Calls Try.prog 6 #[] w fun e w' => e = .returned (.bool true) ∧ Below w.heap.size w w' := by
  have ha : portmanteaulaw01_awake.f 100 = some true := awake_eq 100 (by omega)
  have HA := Aside0.mk ha
  clear ha
  go_enter Try.func6, Try.ntmps6
  go_wp2_with (first
    | (go_at_call 7; refine (portmanteaulaw01_awake.calls 100 true _ HA.out).mono ?_; rintro e w1 ⟨rfl, hb⟩; have HB := Aside0.mk hb; clear hb)
    | (go_at_call 27; refine (one_nil _).mono ?_; rintro e w2 ⟨rfl, ⟨n1, rfl⟩⟩)
    | (go_at_call 16; refine (two_nil _).mono ?_; rintro e w2 ⟨rfl, ⟨n2, rfl⟩⟩)
    | (go_at_call 17; refine (four_nil _).mono ?_; rintro e w2 ⟨rfl, ⟨n3, rfl⟩⟩)
    | (go_at_call 19; refine (eight_nil _).mono ?_; rintro e w2 ⟨rfl, ⟨n4, rfl⟩⟩)
    | (go_at_call 18; refine (take_nil _ _).mono ?_; rintro e w2 ⟨rfl, rfl⟩)
    | (go_at_call 21; refine (peek_nil _ _).mono ?_; rintro e w2 ⟨rfl, ⟨n5, rfl⟩⟩)
    | (go_at_call 26; refine (seek_nil _ _).mono ?_; rintro e w2 ⟨rfl, rfl⟩)
    | (go_at_call 23; refine (at_nil _).mono ?_; rintro e w2 ⟨rfl, rfl⟩)
    | (go_at_call 20; refine (left_nil _).mono ?_; rintro e w2 ⟨rfl, rfl⟩)
    | (go_at_call 22; refine (err_nil _).mono ?_; rintro e w2 ⟨rfl, rfl⟩))
  go_ret
  exact ⟨rfl, by repeat (first | exact HB.out | apply pw_below_drewN)⟩
end Go.Proofs.Ytegdnkhpkealoaa.Walk
