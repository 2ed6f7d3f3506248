/- awake of the seventh chapter: its example, closed. -/
import Derived.Test.YtgpmhdefpbmhjaaPlain
import Derived.Test.YtgpmhdefpbmhjaaChains
import Derived.Test.YtgpmhdefpbmhjaaFull
namespace Go.Proofs.Ytgpmhdefpbmhjaa.Walk
set_option linter.unusedVariables false
set_option linter.unusedSimpArgs false
open Go Go.RowKit Go.Proofs.Ytgpmhdefpbmhjaa.P Go.Proofs.Ytgpmhdefpbmhjaa.B Go.Proofs.Ytgpmhdefpbmhjaa.D7 Go.Proofs.Ytgpmhdefpbmhjaa.Ch Go.Proofs.Ytgpmhdefpbmhjaa.MapG Go.Proofs.YtgpmhdefpbmhjaaW.PrintWords Go.Proofs.YtgpmhdefpbmhjaaW.PrintLast Go.Proofs.YtgpmhdefpbmhjaaW.PrintMore

def abcd : ByteArray := ⟨#[97, 98, 99, 100]⟩
theorem abcd_len : (chL abcd (places abcd)).length = 2 := by decide +kernel
theorem awk_reads (w : World) : Kd.C k25 (w.alloc (.cells #[.int .u8 97, .int .i64 0, .int .i64 0, .int .u8 0, .int .i64 4, .int .i64 1] 25)) (some ⟨w.heap.size, 0, none⟩) 2 awk := by
  refine Full.C_of_reps (cs := [.int .u8 97, .int .i64 0, .int .i64 0, .int .u8 0, .int .i64 4, .int .i64 1]) (Full.cells_new w _ 25) ?_ (by decide)
  exact Reps.snoc (Reps.snoc (Reps.none _ _) (k25_mk _ ⟨97, 0, 0⟩) rfl) (k25_mk _ ⟨0, 4, 1⟩) rfl
set_option maxHeartbeats 1000000 in
theorem awake_calls (w : World) : Calls Try.prog 9 #[] w fun e w' => e = .returned (.bool true) ∧ Below w.heap.size w w' := by
  have HE := Aside0.mk awake_expand
  have HL := Aside0.mk abcd_len
  go_enter Try.func9, Try.ntmps9
  go_wp2_with (first
    | (go_at_call 12; refine (match_Expand.calls 40 _ 2 awk _ _ _ (awk_reads w) (by decide) HE.out).mono ?_; rintro e w1 ⟨rfl, hb⟩; have HB1 := Aside0.mk hb; clear hb)
    | (go_at_call 15; refine (chains_calls abcd _ (by decide)).mono ?_; rintro e w2 ⟨rfl, ho, hb⟩; have hlen : ∀ ty, (Builtin.len_ #[37] ty #[.map (some w1.heap.size)]).run Try.prog w2 = .ok (.int .i64 2) w2 := fun ty => by { have h := ho.len Try.underlying37 ty; rw [HL.out] at h; exact h }; have HB2 := Aside0.mk hb; clear ho hb))
  go_ret
  exact ⟨rfl, below_step (below_step (below_alloc (Below.refl _ _) _) HB1.out) HB2.out⟩
end Go.Proofs.Ytgpmhdefpbmhjaa.Walk
