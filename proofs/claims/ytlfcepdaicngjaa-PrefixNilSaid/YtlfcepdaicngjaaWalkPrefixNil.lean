/- PrefixNil: codes, readers and writers that are none: the walk through the law's own code. A closed sentence: no condition. -/
import Derived.Test.YtlfcepdaicngjaaAwake4
import Derived.Test.YtlfcepdaicngjaaPx2
namespace Go.Proofs.Ytlfcepdaicngjaa.Walk
set_option linter.unusedVariables false
set_option linter.unusedSimpArgs false
open Go Go.RowKit Go.Proofs.Ytlfcepdaicngjaa.P Go.Proofs.Ytlfcepdaicngjaa.Pk Go.Proofs.YtlfcepdaicngjaaW.PrintWords Go.Proofs.YtlfcepdaicngjaaW.PrintLast Go.Proofs.YtlfcepdaicngjaaW.PrintMore
set_option maxHeartbeats 4000000 in
set_option maxRecDepth 100000 in
theorem PrefixNil (w : World) : Calls Try.prog 4 #[] w fun e w' => e = .returned (.bool true) ∧ Below w.heap.size w w' := by
  go_enter Try.func4, Try.ntmps4
  go_upto_region 3 with (first
    | (go_at_call 9; refine (bits_Over.calls _ _ _ _ w w (Below.refl _ _) rfl).mono ?_; rintro e w1 ⟨g1, rfl, _, hb, _⟩; have HB := Aside0.mk hb; clear hb)
    | (go_at_call 11; refine (sign_nil _ _).mono ?_; rintro e w2 ⟨rfl, ⟨n1, rfl⟩⟩))
  have HB1 := Aside0.mk (pw_below_drewN HB.out n1)
  generalize w1.drewN n1 = w2 at HB1 ⊢
  go_upto_region 4 with (go_at_call 8; refine (new_ok _ _ [1, 1] [0, 1] 32768 false _ (lit_C w2 [1, 1] (by decide)) (by decide) words2 fill2 (by decide) rfl (by decide) (by decide) (.inl (by decide))).mono ?_; rintro e w3 ⟨p, _, rfl, _, hb⟩; have HB3 := Aside0.mk (below_step HB1.out (below_step (below_alloc (Below.refl w2.heap.size w2) (.cells #[.int .u8 1, .int .u8 1] 5)) hb)); clear hb)
  clear HB HB1
  go_upto_region 5 with (go_at_call 11; refine (sign_rnil _ _).mono ?_; rintro e w4 ⟨rfl, ⟨n2, rfl⟩⟩)
  have HB4 := Aside0.mk (pw_below_drewN HB3.out n2)
  generalize w3.drewN n2 = w4 at HB4 ⊢
  go_wp2_with (first
    | (go_at_call 7; (with_reducible refine (awake_calls _).mono ?_); rintro e w5 ⟨rfl, hb⟩; have HB5 := Aside0.mk (below_step HB4.out hb); clear hb)
    | (go_at_call 13; (with_reducible refine (put_nil _ _).mono ?_); rintro e w6 ⟨rfl, ⟨n3, rfl⟩⟩)
    | (go_at_call 13; (with_reducible refine (put_wnil _ _).mono ?_); rintro e w6 ⟨rfl, ⟨n4, rfl⟩⟩)
    | (go_at_call 12; (with_reducible refine (length_nil _).mono ?_); rintro e w7 ⟨rfl, ⟨n5, rfl⟩⟩)
    | (go_at_call 14; (with_reducible refine (signs_nil _).mono ?_); rintro e w8 ⟨rfl, ⟨n6, rfl⟩⟩))
  go_ret
  refine ⟨rfl, ?_⟩
  repeat (first | (with_reducible exact HB5.out) | (with_reducible apply pw_below_drewN) | (with_reducible apply below_alloc))
end Go.Proofs.Ytlfcepdaicngjaa.Walk
