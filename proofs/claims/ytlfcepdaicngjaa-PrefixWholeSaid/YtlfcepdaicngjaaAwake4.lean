/- The chapter's example: the walk. -/
import Derived.Test.YtlfcepdaicngjaaNewbad
namespace Go.Proofs.Ytlfcepdaicngjaa.Pk
set_option linter.unusedVariables false
set_option linter.unusedSimpArgs false
open Go Go.RowKit Go.Proofs.Ytlfcepdaicngjaa.P Go.Proofs.Ytlfcepdaicngjaa.MapV Go.Proofs.YtlfcepdaicngjaaW.PrintWords Go.Proofs.YtlfcepdaicngjaaW.PrintLast Go.Proofs.YtlfcepdaicngjaaW.PrintMore
theorem lit_C (W : World) (xs : List Int) (h : xs.length ≤ 9223372036854775807) : Kd.C (Kd.int .u8) (W.alloc (.cells (xs.map (Value.int .u8)).toArray 5)) (some ⟨W.heap.size, 0, none⟩) xs.length xs := by
  have h2 := World.ownsRow_lit (base := W.heap.size) (e := 5) (size := 1) W (xs.map (Value.int .u8)).toArray xs.length (Nat.le_refl _) (by simpa [maxLen] using h) (by simp)
  have hR : (Kd.int .u8).R 5 (W.alloc (.cells (xs.map (Value.int .u8)).toArray 5)) W.heap.size (fun _ => True) (.slice (some ⟨W.heap.size, 0, none⟩) xs.length xs.length) xs := Kd.R_of_own (by simpa [encs] using h2) (fun _ _ => trivial)
  obtain ⟨A, c, he, _, hC⟩ := Kd.R_reads hR
  cases he
  exact hC
theorem fill4 : prefix_Fill.f 5000 [2, 1, 3, 3] = some (32768, 0) := by kernel_rfl
theorem words4 : prefix_Words.f [2, 1, 3, 3] = some ([2, 0, 6, 7], 0) := by kernel_rfl
theorem fill2 : prefix_Fill.f 5000 [1, 1] = some (32768, 0) := by kernel_rfl
theorem words2 : prefix_Words.f [1, 1] = some ([0, 1], 0) := by kernel_rfl
theorem sign_nil (R : Option Addr) (w : World) : Calls Try.prog 11 #[.pointer none, .pointer R] w fun e w' => e = .returned (.tuple #[.int .i64 (-1), .int .i64 1]) ∧ Drawn0 w w' := by
  go_enter Try.func11, Try.ntmps11
  go_wp2
  repeat (go_quiet (fail); try go_wp2)
  first | go_ret | go_end0 | go_ret2
  exact ⟨rfl, ⟨0, rfl⟩⟩
theorem sign_rnil (p : Nat) (w : World) : Calls Try.prog 11 #[.pointer (some ⟨p, 0, none⟩), .pointer none] w fun e w' => e = .returned (.tuple #[.int .i64 (-1), .int .i64 1]) ∧ Drawn0 w w' := by
  go_enter Try.func11, Try.ntmps11
  go_wp2
  repeat (go_quiet (fail); try go_wp2)
  first | go_ret | go_end0 | go_ret2
  exact ⟨rfl, ⟨0, rfl⟩⟩
theorem put_nil (R : Option Addr) (w : World) : Calls Try.prog 13 #[.pointer none, .pointer R, .int .i64 0] w fun e w' => e = .returned (.int .i64 1) ∧ Drawn0 w w' := by
  go_enter Try.func13, Try.ntmps13
  go_wp2
  repeat (go_quiet (fail); try go_wp2)
  first | go_ret | go_end0 | go_ret2
  exact ⟨rfl, ⟨0, rfl⟩⟩
theorem put_wnil (p : Nat) (w : World) : Calls Try.prog 13 #[.pointer (some ⟨p, 0, none⟩), .pointer none, .int .i64 0] w fun e w' => e = .returned (.int .i64 1) ∧ Drawn0 w w' := by
  go_enter Try.func13, Try.ntmps13
  go_wp2
  repeat (go_quiet (fail); try go_wp2)
  first | go_ret | go_end0 | go_ret2
  exact ⟨rfl, ⟨0, rfl⟩⟩
theorem length_nil (w : World) : Calls Try.prog 12 #[.pointer none, .int .i64 0] w fun e w' => e = .returned (.int .i64 0) ∧ Drawn0 w w' := by
  go_enter Try.func12, Try.ntmps12
  go_wp2
  repeat (go_quiet (fail); try go_wp2)
  first | go_ret | go_end0 | go_ret2
  exact ⟨rfl, ⟨0, rfl⟩⟩
theorem signs_nil (w : World) : Calls Try.prog 14 #[.pointer none] w fun e w' => e = .returned (.int .i64 0) ∧ Drawn0 w w' := by
  go_enter Try.func14, Try.ntmps14
  go_wp2
  repeat (go_quiet (fail); try go_wp2)
  first | go_ret | go_end0 | go_ret2
  exact ⟨rfl, ⟨0, rfl⟩⟩
set_option maxHeartbeats 4000000 in
set_option maxRecDepth 100000 in
theorem awake_calls (w : World) : Calls Try.prog 7 #[] w fun e w' => e = .returned (.bool true) ∧ Below w.heap.size w w' := by
  have HA := Aside0.mk (below_alloc (Below.refl w.heap.size w) (.cells #[.int .u8 2, .int .u8 1, .int .u8 3, .int .u8 3] 5))
  go_enter Try.func7, Try.ntmps7
  go_upto_region 2 with (go_at_call 21; refine (prefix_Words.calls _ _ [2, 1, 3, 3] [2, 0, 6, 7] 0 _ (lit_C w [2, 1, 3, 3] (by decide)) (by decide) words4).mono ?_; rintro e w1 ⟨vw, rfl, hrw, hbw⟩; obtain ⟨g2, c2, rfl, _, _, _⟩ := Kd.R_form hrw (by decide); obtain ⟨A2, c3, he, _, hrw⟩ := Kd.R_reads hrw; cases he; have HRW := Aside0.mk hrw; have HB := Aside0.mk (below_step HA.out hbw); clear hrw hbw)
  go_upto_region 3 with (go_at_call 8; refine (new_ok _ _ [2, 1, 3, 3] [2, 0, 6, 7] 32768 false _ (lit_C w1 [2, 1, 3, 3] (by decide)) (by decide) words4 fill4 (by decide) rfl (by decide) (by decide) (.inl (by decide))).mono ?_; rintro e w3 ⟨p, _, rfl, _, hb⟩; have HB3 := Aside0.mk (below_step (below_alloc (Below.refl w1.heap.size w1) (.cells #[.int .u8 2, .int .u8 1, .int .u8 3, .int .u8 3] 5)) hb); clear hb)
  have hC := Kd.C_below HRW.out HB3.out
  obtain ⟨a0, e0, h0⟩ := Kd.at_int hC 0 (by omega) (by decide)
  cases e0
  obtain ⟨a1, e1, h1⟩ := Kd.at_int hC 1 (by omega) (by decide)
  cases e1
  obtain ⟨a2, e2, h2⟩ := Kd.at_int hC 2 (by omega) (by decide)
  cases e2
  obtain ⟨a3, e3, h3⟩ := Kd.at_int hC 3 (by omega) (by decide)
  cases e3
  simp [rd, Addr.add] at h0 h1 h2 h3
  go_wp2
  go_ret
  exact ⟨rfl, below_step HB.out HB3.out⟩
end Go.Proofs.Ytlfcepdaicngjaa.Pk
