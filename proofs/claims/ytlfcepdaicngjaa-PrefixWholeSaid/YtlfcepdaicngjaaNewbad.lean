/- prefix.New where it gives none: the walks. -/
import Derived.Test.YtlfcepdaicngjaaGivenew
namespace Go.Proofs.Ytlfcepdaicngjaa.Pk
set_option linter.unusedVariables false
set_option linter.unusedSimpArgs false
open Go Go.RowKit Go.Proofs.Ytlfcepdaicngjaa.P Go.Proofs.Ytlfcepdaicngjaa.MapV Go.Proofs.YtlfcepdaicngjaaW.PrintWords Go.Proofs.YtlfcepdaicngjaaW.PrintLast Go.Proofs.YtlfcepdaicngjaaW.PrintMore
set_option maxHeartbeats 8000000 in
set_option maxRecDepth 100000 in
theorem new_bad (A0 : Option Addr) (c0 : Nat) (l0 ws : List Int) (e : Int) (o : Bool) (w : World) (hr0 : Kd.C (Kd.int .u8) w A0 l0.length l0) (hc0 : l0.length ≤ c0)
    (hW : prefix_Words.f l0 = some (ws, e)) (he : e ≠ 0) :
    Calls Try.prog 8 #[.slice A0 l0.length c0, .bool o] w fun x w' => x = .returned (.tuple #[.pointer none, .int .i64 e]) ∧ Below w.heap.size w w' := by
  have HW := Aside0.mk hW
  have HR := Aside0.mk hr0
  have HC := Aside0.mk hc0
  have hb1 : (e != 0) = true := bne_iff_ne.mpr he
  clear hW hr0 hc0 he
  go_enter Try.func8, Try.ntmps8
  go_wp2_with (go_at_call 21; refine (prefix_Words.calls _ _ l0 _ _ _ HR.out HC.out HW.out).mono ?_; rintro e w1 ⟨vw, rfl, hrw, hbw⟩; obtain ⟨A2, c2, rfl, _, hrw⟩ := Kd.R_reads hrw; have HB := Aside0.mk hbw; clear hrw hbw)
  go_ret2
  exact ⟨rfl, HB.out⟩
set_option maxHeartbeats 8000000 in
set_option maxRecDepth 100000 in
theorem new_shut (A0 : Option Addr) (c0 : Nat) (l0 ws : List Int) (n : Int) (o : Bool) (w : World) (hr0 : Kd.C (Kd.int .u8) w A0 l0.length l0) (hc0 : l0.length ≤ c0)
    (hW : prefix_Words.f l0 = some (ws, 0)) (hF : prefix_Fill.f 5000 l0 = some (n, 0)) (hn : n < 32768) (hcond : o = false ∨ o = true ∧ prefix_few.f 5000 l0 = some false) :
    Calls Try.prog 8 #[.slice A0 l0.length c0, .bool o] w fun x w' => x = .returned (.tuple #[.pointer none, .int .i64 10]) ∧ Below w.heap.size w w' := by
  have HW := Aside0.mk hW
  have HF := Aside0.mk hF
  have HR := Aside0.mk hr0
  have HC := Aside0.mk hc0
  have hb1 : decide (n < 32768) = true := decide_eq_true hn
  clear hW hF hr0 hc0 hn
  rcases hcond with rfl | ⟨rfl, hfew⟩
  · go_enter Try.func8, Try.ntmps8
    go_wp2_with (first
      | (go_at_call 21; refine (prefix_Words.calls _ _ l0 _ _ _ HR.out HC.out HW.out).mono ?_; rintro e w1 ⟨vw, rfl, hrw, hbw⟩; obtain ⟨A2, c2, rfl, _, hrw⟩ := Kd.R_reads hrw; have HB := Aside0.mk hbw; clear hrw hbw)
      | (go_at_call 22; refine (prefix_Fill.calls 5000 _ _ l0 _ _ _ (Kd.C_below HR.out HB.out) HC.out HF.out).mono ?_; rintro e w2 ⟨rfl, ⟨nd, rfl⟩⟩))
    go_ret2
    exact ⟨rfl, pw_below_drewN HB.out _⟩
  · have HFEW := Aside0.mk hfew
    clear hfew
    go_enter Try.func8, Try.ntmps8
    go_wp2_with (first
      | (go_at_call 21; refine (prefix_Words.calls _ _ l0 _ _ _ HR.out HC.out HW.out).mono ?_; rintro e w1 ⟨vw, rfl, hrw, hbw⟩; obtain ⟨A2, c2, rfl, _, hrw⟩ := Kd.R_reads hrw; have HB := Aside0.mk hbw; clear hrw hbw)
      | (go_at_call 22; refine (prefix_Fill.calls 5000 _ _ l0 _ _ _ (Kd.C_below HR.out HB.out) HC.out HF.out).mono ?_; rintro e w2 ⟨rfl, ⟨nd0, rfl⟩⟩)
      | (go_at_call 23; refine (prefix_few.calls 5000 _ _ l0 _ _ (Kd.C_below (Kd.C_below HR.out HB.out) (pw_below_drewN (Below.refl _ _) _)) HC.out HFEW.out).mono ?_; rintro e w2 ⟨rfl, ⟨nd1, rfl⟩⟩))
    go_ret2
    exact ⟨rfl, pw_below_drewN HB.out _⟩
end Go.Proofs.Ytlfcepdaicngjaa.Pk
