/- Written by a program of this session (wip/print2: a patched copy of a printer), not by print.sh: Lean functions with the answers of the Go functions, and the proofs of that; no condition beside those that stand in each theorem. -/
import Derived.Test.YtpolblaahifjiaaDoorPx0
import Derived.Test.YtpolblaahifjiaaDoorGiveseconds
namespace Go.Proofs.YtpolblaahifjiaaDoor.P
open Go.RowKit Go.Proofs.YtpolblaahifjiaaDoorW.PrintWords Go.Proofs.YtpolblaahifjiaaDoorW.PrintLast Go.Proofs.YtpolblaahifjiaaDoorW.PrintMore
attribute [local go_sem] max2_int min2_int max_two min_two max_three min_three max_four min_four   -- for this text's walks alone
set_option linter.unusedVariables false
set_option linter.unusedSimpArgs false

/-! ### stamp_FromDOS: function 16 -/
def stamp_FromDOS.f (a0 : Int) : Option (Int × Int) := (stamp_Date_Seconds.f (wrap64 ((wrap64 (a0 / 33554432)) + 1980)) (wrap64 (Go.bits .and .u32 (a0 / 2097152) 15)) (wrap64 (Go.bits .and .u32 (a0 / 65536) 31)) (wrap64 (Go.bits .and .u32 (a0 / 2048) 31)) (wrap64 (Go.bits .and .u32 (a0 / 32) 63)) (wrap64 ((wrap64 (Go.bits .and .u32 a0 31)) * 2))).bind fun bt170 => (some (bt170.1, bt170.2))
set_option maxHeartbeats 8000000 in
set_option maxRecDepth 100000 in
theorem stamp_FromDOS.calls (a0 : Int) (r1 : Int) (r2 : Int) (w : World) (h : stamp_FromDOS.f a0 = some (r1, r2)) :
    Calls Tryd.prog 16 #[.int .u32 a0] w fun e w' => e = .returned (.tuple #[.int .i64 r1, .int .i64 r2]) ∧ Below w.heap.size w w' := by
  have hu24 := Tryd.underlying24
  have HB := Aside0.mk (Below.refl w.heap.size w)
  have H : ((stamp_Date_Seconds.f (wrap64 ((wrap64 (a0 / 33554432)) + 1980)) (wrap64 (Go.bits .and .u32 (a0 / 2097152) 15)) (wrap64 (Go.bits .and .u32 (a0 / 65536) 31)) (wrap64 (Go.bits .and .u32 (a0 / 2048) 31)) (wrap64 (Go.bits .and .u32 (a0 / 32) 63)) (wrap64 ((wrap64 (Go.bits .and .u32 a0 31)) * 2))).bind fun bt170 => (some (bt170.1, bt170.2))) = some (r1, r2) := h
  clear h
  replace H := Option.bind_eq_some_iff.mp H
  obtain ⟨⟨t170, t171⟩, A20, H⟩ := H
  replace H : (some (t170, t171)) = some (r1, r2) := H
  have A2 := Aside0.mk A20
  clear A20
  simp only [Option.some.injEq, Prod.mk.injEq] at H
  obtain ⟨rfl, rfl⟩ := H
  go_enter Tryd.func16, Tryd.ntmps16
  go_wp2_with (first | ((with_reducible refine gate_callee (f := 14) rfl ?_); refine goesL_ (some 29) rfl rfl Tryd.func14 (by kernel_rfl) rfl #[.agg #[.int .i64 (wrap64 ((wrap64 (a0 / 33554432)) + 1980)), .int .i64 (wrap64 (Go.bits .and .u32 (a0 / 2097152) 15)), .int .i64 (wrap64 (Go.bits .and .u32 (a0 / 65536) 31)), .int .i64 (wrap64 (Go.bits .and .u32 (a0 / 2048) 31)), .int .i64 (wrap64 (Go.bits .and .u32 (a0 / 32) 63)), .int .i64 (wrap64 ((wrap64 (Go.bits .and .u32 a0 31)) * 2))]] rfl (by (try simp only [List.map_toArray, List.map_cons, List.map_nil]); first | done | rfl | (simp only [List.length_drop, List.length_take]; rfl)) ?_; (with_reducible refine (stamp_Date_Seconds.calls (wrap64 ((wrap64 (a0 / 33554432)) + 1980)) (wrap64 (Go.bits .and .u32 (a0 / 2097152) 15)) (wrap64 (Go.bits .and .u32 (a0 / 65536) 31)) (wrap64 (Go.bits .and .u32 (a0 / 2048) 31)) (wrap64 (Go.bits .and .u32 (a0 / 32) 63)) (wrap64 ((wrap64 (Go.bits .and .u32 a0 31)) * 2)) t170 t171 _ A2.out).mono ?_); rintro e w3 ⟨rfl, hb⟩; refine ⟨_, rfl, ?_⟩; have n0_ := Aside0.mk (below_step (by repeat (first | (with_reducible first | exact HB.out | apply below_alloc | apply pw_below_drewN | apply below_drew1) | exact HB.out)) hb); clear HB; have HB := n0_; clear n0_; (try clear hb); (try clear hb2); (try clear hk); (try clear hi)))
  go_ret2
  exact ⟨by first | rfl | (simp [errW_none, errW_some] <;> rfl) | (simp [*, errW_none, errW_some] <;> rfl), by repeat (first | (with_reducible first | exact HB.out | apply below_alloc | apply pw_below_drewN | apply below_drew1) | exact HB.out)⟩

end Go.Proofs.YtpolblaahifjiaaDoor.P
