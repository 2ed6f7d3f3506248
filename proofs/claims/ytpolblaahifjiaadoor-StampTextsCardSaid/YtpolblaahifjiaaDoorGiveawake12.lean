/- The law's awake: the chapter's examples: the walk. -/
import Derived.Test.YtpolblaahifjiaaDoorGivestamptext
import Derived.Test.YtpolblaahifjiaaDoorPx2
import Derived.Test.YtpolblaahifjiaaDoorPx7
namespace Go.Proofs.YtpolblaahifjiaaDoor.P
set_option linter.unusedVariables false
set_option linter.unusedSimpArgs false
open Go Go.RowKit Go.Lib Go.Proofs Go.Proofs.YtpolblaahifjiaaDoor.Fmt Go.Proofs.YtpolblaahifjiaaDoorW.PrintWords Go.Proofs.YtpolblaahifjiaaDoorW.PrintLast Go.Proofs.YtpolblaahifjiaaDoorW.PrintMore
def portmanteaulaw12_awake.f : Option Bool := some true
theorem of_zero : stamp_Of.f 0 = some (1970, 1, 1, 0, 0, 0, 0) := by kernel_rfl
theorem todos_zero : stamp_ToDOS.f 10 0 = some 2162688 := by kernel_rfl
def example0 : ByteArray := ⟨#[49, 57, 55, 48, 45, 48, 49, 45, 48, 49, 84, 48, 48, 58, 48, 48, 58, 48, 48]⟩
theorem text_zero : stamp_Text.f 1970 1 1 0 0 0 = some example0 := by
  unfold stamp_Text.f
  rw [if_pos (by decide)]
  decide +kernel
set_option maxHeartbeats 12800000 in
set_option maxRecDepth 100000 in
theorem portmanteaulaw12_awake.calls (r : Bool) (w : World) (h : portmanteaulaw12_awake.f = some r) (hT0 : Tab w) :
    Calls Tryd.prog 8 #[] w fun e w' => e = .returned (.bool r) ∧ Below w.heap.size w w' := by
  obtain rfl : true = r := Option.some.inj h
  have hu := Tryd.underlying24
  have HT := Aside0.mk hT0
  have HB0 := Aside0.mk (Below.refl w.heap.size w)
  clear h hT0
  go_enter Tryd.func8, Tryd.ntmps8
  go_upto_region 2 with (go_at_call 9; (with_reducible refine (stamp_Of.calls _ _ _ _ _ _ _ _ _ of_zero).mono ?_); rintro e w1 ⟨rfl, hb⟩; have HB1 := Aside0.mk (below_step HB0.out hb); clear hb)
  have hE : (example0.toList == [49, 57, 55, 48, 45, 48, 49, 45, 48, 49, 84, 48, 48, 58, 48, 48, 58, 48, 48]) = true := by decide +kernel
  go_wp2_with (first
    | (go_at_call 10; (with_reducible refine (stamp_Text.calls _ _ _ _ _ _ _ _ text_zero (tab_at HT.out (below_alloc HB1.out _))).mono ?_); rintro e w2 ⟨rfl, hb⟩; have HB2 := Aside0.mk (below_step (below_alloc HB1.out _) hb); clear hb)
    | (go_at_call 12; (with_reducible refine (stamp_ToDOS.calls 10 _ _ _ todos_zero).mono ?_); rintro e w3 ⟨rfl, hb⟩; have HB3 := Aside0.mk (below_step HB2.out hb); clear hb))
  go_ret
  exact ⟨rfl, HB3.out⟩
end Go.Proofs.YtpolblaahifjiaaDoor.P
