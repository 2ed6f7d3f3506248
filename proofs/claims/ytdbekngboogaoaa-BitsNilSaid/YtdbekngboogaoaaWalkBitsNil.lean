/- BitsNil: readers and writers of bits that are none answer nothing, and say so: the walk through the law's own code. A closed sentence: no condition. -/
import Derived.Test.YtdbekngboogaoaaAwake
namespace Go.Proofs.Ytdbekngboogaoaa.Walk
set_option linter.unusedVariables false
set_option linter.unusedSimpArgs false
open Go Go.RowKit Go.Proofs.Ytdbekngboogaoaa.P Go.Proofs.Ytdbekngboogaoaa.B Go.Proofs.Ytdbekngboogaoaa.Bn Go.Proofs.YtdbekngboogaoaaW.PrintWords Go.Proofs.YtdbekngboogaoaaW.PrintLast Go.Proofs.YtdbekngboogaoaaW.PrintMore

theorem rskip_nil (n : Int) (w : World) : Calls Try.prog 27 #[.pointer none, .int .i64 n] w fun e w' => e = .returned (.tuple #[]) ∧ Drawn0 w w' := by
  go_enter Try.func27, Try.ntmps27
  go_wp2
  repeat (go_quiet (fail); try go_wp2)
  first | go_ret | go_end0 | ((try simp only [Exit.inBlock, Exit.then]); refine bodyPost_ret (results_none rfl _ _ _) rfl ?_) | go_ret2
  exact ⟨rfl, ⟨0, rfl⟩⟩
theorem ralign_nil (w : World) : Calls Try.prog 29 #[.pointer none] w fun e w' => e = .returned (.tuple #[]) ∧ Drawn0 w w' := by
  go_enter Try.func29, Try.ntmps29
  go_wp2
  repeat (go_quiet (fail); try go_wp2)
  first | go_ret | go_end0 | ((try simp only [Exit.inBlock, Exit.then]); refine bodyPost_ret (results_none rfl _ _ _) rfl ?_) | go_ret2
  exact ⟨rfl, ⟨0, rfl⟩⟩
theorem wwrite_nil (v n : Int) (w : World) : Calls Try.prog 10 #[.pointer none, .int .u32 v, .int .i64 n] w fun e w' => e = .returned (.tuple #[]) ∧ Drawn0 w w' := by
  go_enter Try.func10, Try.ntmps10
  go_wp2
  repeat (go_quiet (fail); try go_wp2)
  first | go_ret | go_end0 | ((try simp only [Exit.inBlock, Exit.then]); refine bodyPost_ret (results_none rfl _ _ _) rfl ?_) | go_ret2
  exact ⟨rfl, ⟨0, rfl⟩⟩
theorem walign_nil (w : World) : Calls Try.prog 12 #[.pointer none] w fun e w' => e = .returned (.tuple #[]) ∧ Drawn0 w w' := by
  go_enter Try.func12, Try.ntmps12
  go_wp2
  repeat (go_quiet (fail); try go_wp2)
  first | go_ret | go_end0 | ((try simp only [Exit.inBlock, Exit.then]); refine bodyPost_ret (results_none rfl _ _ _) rfl ?_) | go_ret2
  exact ⟨rfl, ⟨0, rfl⟩⟩
theorem rpeek_nil (n : Int) (w : World) : Calls Try.prog 25 #[.pointer none, .int .i64 n] w fun e w' => e = .returned (.tuple #[.int .u32 0, .int .i64 0]) ∧ Drawn0 w w' := by
  go_enter Try.func25, Try.ntmps25
  go_wp2
  repeat (go_quiet (fail); try go_wp2)
  first | go_ret | go_end0 | ((try simp only [Exit.inBlock, Exit.then]); refine bodyPost_ret (results_none rfl _ _ _) rfl ?_) | go_ret2
  exact ⟨rfl, ⟨0, rfl⟩⟩
theorem rread_nil (n : Int) (w : World) : Calls Try.prog 21 #[.pointer none, .int .i64 n] w fun e w' => e = .returned (.int .u32 0) ∧ Drawn0 w w' := by
  go_enter Try.func21, Try.ntmps21
  go_wp2
  repeat (go_quiet (fail); try go_wp2)
  first | go_ret | go_end0 | ((try simp only [Exit.inBlock, Exit.then]); refine bodyPost_ret (results_none rfl _ _ _) rfl ?_) | go_ret2
  exact ⟨rfl, ⟨0, rfl⟩⟩
theorem rat_nil (w : World) : Calls Try.prog 24 #[.pointer none] w fun e w' => e = .returned (.int .i64 0) ∧ Drawn0 w w' := by
  go_enter Try.func24, Try.ntmps24
  go_wp2
  repeat (go_quiet (fail); try go_wp2)
  first | go_ret | go_end0 | ((try simp only [Exit.inBlock, Exit.then]); refine bodyPost_ret (results_none rfl _ _ _) rfl ?_) | go_ret2
  exact ⟨rfl, ⟨0, rfl⟩⟩
theorem rerr_nil (w : World) : Calls Try.prog 23 #[.pointer none] w fun e w' => e = .returned (.int .i64 1) ∧ Drawn0 w w' := by
  go_enter Try.func23, Try.ntmps23
  go_wp2
  repeat (go_quiet (fail); try go_wp2)
  first | go_ret | go_end0 | ((try simp only [Exit.inBlock, Exit.then]); refine bodyPost_ret (results_none rfl _ _ _) rfl ?_) | go_ret2
  exact ⟨rfl, ⟨0, rfl⟩⟩
theorem wlen_nil (w : World) : Calls Try.prog 16 #[.pointer none] w fun e w' => e = .returned (.int .i64 0) ∧ Drawn0 w w' := by
  go_enter Try.func16, Try.ntmps16
  go_wp2
  repeat (go_quiet (fail); try go_wp2)
  first | go_ret | go_end0 | ((try simp only [Exit.inBlock, Exit.then]); refine bodyPost_ret (results_none rfl _ _ _) rfl ?_) | go_ret2
  exact ⟨rfl, ⟨0, rfl⟩⟩
theorem wdone_nil (w : World) : Calls Try.prog 17 #[.pointer none] w fun e w' => e = .returned (.string ⟨#[]⟩) ∧ Drawn0 w w' := by
  go_enter Try.func17, Try.ntmps17
  go_wp2
  repeat (go_quiet (fail); try go_wp2)
  first | go_ret | go_end0 | ((try simp only [Exit.inBlock, Exit.then]); refine bodyPost_ret (results_none rfl _ _ _) rfl ?_) | go_ret2
  exact ⟨rfl, ⟨0, rfl⟩⟩
theorem rbytes_nil (n : Int) (w : World) : Calls Try.prog 22 #[.pointer none, .int .i64 n] w fun e w' => e = .returned (.string ⟨#[]⟩) ∧ Drawn0 w w' := by
  go_enter Try.func22, Try.ntmps22
  go_wp2_with (go_at_call 29; refine (ralign_nil _).mono ?_; rintro e w1 ⟨rfl, ⟨n1, rfl⟩⟩)
  go_ret
  exact ⟨rfl, ⟨_, rfl⟩⟩
theorem wbytes_nil (s : ByteArray) (w : World) : Calls Try.prog 14 #[.pointer none, .string s] w fun e w' => e = .returned (.tuple #[]) ∧ Drawn0 w w' := by
  go_enter Try.func14, Try.ntmps14
  go_wp2_with (go_at_call 12; refine (walign_nil _).mono ?_; rintro e w1 ⟨rfl, ⟨n1, rfl⟩⟩)
  first | go_end0 | ((try simp only [Exit.inBlock, Exit.then]); refine bodyPost_ret (results_none rfl _ _ _) rfl ?_)
  exact ⟨rfl, ⟨_, rfl⟩⟩
set_option maxHeartbeats 4000000 in
set_option maxRecDepth 100000 in
theorem BitsNil (w : World) : Calls Try.prog 7 #[] w fun e w' => e = .returned (.bool true) ∧ Below w.heap.size w w' := by
  go_enter Try.func7, Try.ntmps7
  go_wp2_with (first
    | (go_at_call 27; refine (rskip_nil _ _).mono ?_; rintro e w2 ⟨rfl, ⟨n1, rfl⟩⟩)
    | (go_at_call 29; refine (ralign_nil _).mono ?_; rintro e w2 ⟨rfl, ⟨n2, rfl⟩⟩)
    | (go_at_call 10; refine (wwrite_nil _ _ _).mono ?_; rintro e w2 ⟨rfl, ⟨n3, rfl⟩⟩)
    | (go_at_call 12; refine (walign_nil _).mono ?_; rintro e w2 ⟨rfl, ⟨n4, rfl⟩⟩)
    | (go_at_call 14; refine (wbytes_nil _ _).mono ?_; rintro e w2 ⟨rfl, ⟨n5, rfl⟩⟩)
    | (go_at_call 25; refine (rpeek_nil _ _).mono ?_; rintro e w2 ⟨rfl, ⟨n6, rfl⟩⟩)
    | (go_at_call 8; refine (awake_calls _).mono ?_; rintro e w1 ⟨rfl, hb⟩; have HB := Aside0.mk hb; clear hb)
    | (go_at_call 21; refine (rread_nil _ _).mono ?_; rintro e w2 ⟨rfl, ⟨n7, rfl⟩⟩)
    | (go_at_call 22; refine (rbytes_nil _ _).mono ?_; rintro e w2 ⟨rfl, ⟨n8, rfl⟩⟩)
    | (go_at_call 24; refine (rat_nil _).mono ?_; rintro e w2 ⟨rfl, ⟨n9, rfl⟩⟩)
    | (go_at_call 23; refine (rerr_nil _).mono ?_; rintro e w2 ⟨rfl, ⟨n10, rfl⟩⟩)
    | (go_at_call 16; refine (wlen_nil _).mono ?_; rintro e w2 ⟨rfl, ⟨n11, rfl⟩⟩)
    | (go_at_call 17; refine (wdone_nil _).mono ?_; rintro e w2 ⟨rfl, ⟨n12, rfl⟩⟩))
  go_ret
  refine ⟨rfl, ?_⟩
  repeat (apply pw_below_drewN)
  exact Below.trans (by repeat (first | exact Below.refl _ _ | apply pw_below_drewN)) HB.out
end Go.Proofs.Ytdbekngboogaoaa.Walk
