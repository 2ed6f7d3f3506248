/- Written by a program of this session (wip/print2: a patched copy of a printer), not by print.sh: Lean functions with the answers of the Go functions, and the proofs of that; no condition beside those that stand in each theorem. -/
import Derived.Test.YtdooampgkiodjaaPx0
import Derived.Test.YtdooampgkiodjaaPx11
namespace Go.Proofs.Ytdooampgkiodjaa.P
open Go.RowKit Go.Proofs.YtdooampgkiodjaaW.PrintWords Go.Proofs.YtdooampgkiodjaaW.PrintLast Go.Proofs.YtdooampgkiodjaaW.PrintMore
attribute [local go_sem] max2_int min2_int max_two min_two max_three min_three max_four min_four   -- for this text's walks alone
attribute [local go_sem] Go.Proofs.Ytdooampgkiodjaa.Mx.max_five Go.Proofs.Ytdooampgkiodjaa.Mx.max_six Go.Proofs.Ytdooampgkiodjaa.Mx.max_seven
set_option linter.unusedVariables false
set_option linter.unusedSimpArgs false

/-! ### portmanteauref18_Print: function 14 -/
def portmanteauref18_Print.j0 : Nat → ByteArray → Int → Int → Int → Bool → Int → Int → Int → Int → ByteArray → Bool → Option (ByteArray × Int)
  | 0, _, _, _, _, _, _, _, _, _, _, _ => none
  | k + 1, x4, x5, x6, x7, x44, x293000, x293001, x293002, x293003, x293004, x293005 => if x44 = true then (some ((⟨#[]⟩ : ByteArray), 8)) else ((portmanteauref18_ends.f).bind fun t317 => ((portmanteauref17_Print.f k (([101010256, 0, 0, x5, x5, x6, x7, IntKind.u64.wrap ((x293004.size : Int))] : List Int)) t317).bind fun t320 => (if x4.size + t320.size ≤ 9223372036854775807 then (if x4.size + t320.size + x293004.size ≤ 9223372036854775807 then (some ((x4 ++ t320) ++ x293004, 0)) else (none)) else (none))))
def portmanteauref18_Print.f (k : Nat) (a0_0 : Int) (a0_1 : Int) (a0_2 : Int) (a0_3 : Int) (a0_4 : ByteArray) (a0_5 : Bool) : Option (ByteArray × Int) := if (a0_4.size : Int) > 65535 then (some ((⟨#[]⟩ : ByteArray), 5)) else (if a0_5 = true then ((portmanteauref18_wides.f).bind fun t296 => ((portmanteauref17_Print.f k (([101075792, 44, 45, 45, 0, 0, a0_1, a0_1, a0_2, a0_3] : List Int)) t296).bind fun t299 => ((portmanteauref18_locators.f).bind fun t303 => ((portmanteauref17_Print.f k (([117853008, 0, IntKind.u64.wrap (a0_3 + a0_2), 1] : List Int)) t303).bind fun t306 => (if t299.size + t306.size ≤ 9223372036854775807 then ((portmanteauref18_ends.f).bind fun t310 => ((portmanteauref17_Print.f k (([101010256, 0, 0, 65535, 65535, 4294967295, 4294967295, IntKind.u64.wrap ((a0_4.size : Int))] : List Int)) t310).bind fun t313 => (if t299.size + t306.size + t313.size ≤ 9223372036854775807 then (if t299.size + t306.size + t313.size + a0_4.size ≤ 9223372036854775807 then (some (((t299 ++ t306) ++ t313) ++ a0_4, 0)) else (none)) else (none)))) else (none)))))) else (if a0_1 ≥ 65535 then (portmanteauref18_Print.j0 k (⟨#[]⟩ : ByteArray) a0_1 a0_2 a0_3 true a0_0 a0_1 a0_2 a0_3 a0_4 a0_5) else (if a0_2 ≥ 4294967295 then (portmanteauref18_Print.j0 k (⟨#[]⟩ : ByteArray) a0_1 a0_2 a0_3 true a0_0 a0_1 a0_2 a0_3 a0_4 a0_5) else (portmanteauref18_Print.j0 k (⟨#[]⟩ : ByteArray) a0_1 a0_2 a0_3 (decide (a0_3 ≥ 4294967295)) a0_0 a0_1 a0_2 a0_3 a0_4 a0_5))))
theorem portmanteauref18_Print.mono_l : ∀ k, (∀ y0 y1 y2 y3 y4 y5 y6 y7 y8 y9 y10, LeO (portmanteauref18_Print.j0 k y0 y1 y2 y3 y4 y5 y6 y7 y8 y9 y10) (portmanteauref18_Print.j0 (k + 1) y0 y1 y2 y3 y4 y5 y6 y7 y8 y9 y10))
  | 0 => fun _ _ _ _ _ _ _ _ _ _ _ r h => by simp [portmanteauref18_Print.j0] at h
  | k + 1 => by
    have ih0 := portmanteauref18_Print.mono_l k
    · intro y0 y1 y2 y3 y4 y5 y6 y7 y8 y9 y10
      unfold portmanteauref18_Print.j0
      repeat' first
      | (with_reducible exact ih0 _ _ _ _ _ _ _ _ _ _ _)
      | (with_reducible exact portmanteauref17_Print.mono _ _ _)
      | (with_reducible exact LeO.refl _)
      | (with_reducible exact LeO.none _)
      | (with_reducible refine LeO.ite ?_ ?_)
      | (with_reducible refine LeO.bind ?_ (fun _ => ?_))
      | exact ih0 _ _ _ _ _ _ _ _ _ _ _
      | exact portmanteauref17_Print.mono _ _ _
      | exact LeO.none _
      | refine LeO.ite ?_ ?_
      | refine LeO.bind ?_ (fun _ => ?_)
theorem portmanteauref18_Print.mono : ∀ a0 a1 a2 a3 a4 a5 k, LeO (portmanteauref18_Print.f k a0 a1 a2 a3 a4 a5) (portmanteauref18_Print.f (k + 1) a0 a1 a2 a3 a4 a5) := by
  intro a0 a1 a2 a3 a4 a5 k
  have ih0 := portmanteauref18_Print.mono_l k
  unfold portmanteauref18_Print.f
  repeat' first
      | (with_reducible exact ih0 _ _ _ _ _ _ _ _ _ _ _)
      | (with_reducible exact portmanteauref17_Print.mono _ _ _)
      | (with_reducible exact LeO.refl _)
      | (with_reducible exact LeO.none _)
      | (with_reducible refine LeO.ite ?_ ?_)
      | (with_reducible refine LeO.bind ?_ (fun _ => ?_))
      | exact ih0 _ _ _ _ _ _ _ _ _ _ _
      | exact portmanteauref17_Print.mono _ _ _
      | exact LeO.none _
      | refine LeO.ite ?_ ?_
      | refine LeO.bind ?_ (fun _ => ?_)
def portmanteauref18_Print.T4 : Bool × List (List Nat × List Nat) := (true, [([], []), ([0], [0]), ([], []), ([2], [2]), ([], []), ([4], [4]), ([1, 0, 1], [1]), ([3, 6, 0, 1, 2, 3, 6], [3]), ([5, 7, 0, 1, 2, 3, 4, 5, 6, 7], [5])])
def portmanteauref18_Print.B4 : List Nat := [0, 1, 0, 4, 0, 16, 3, 79, 255]
theorem portmanteauref18_Print.tab4 : rtab .any (opsOf Try.f14 4) = portmanteauref18_Print.T4 := by kernel_rfl
theorem portmanteauref18_Print.bits4 : waitsOk portmanteauref18_Print.T4.2 portmanteauref18_Print.B4 = true := by kernel_rfl
def portmanteauref18_Print.T13 : Bool × List (List Nat × List Nat) := (true, [([], []), ([], []), ([], []), ([], []), ([], []), ([], []), ([5], [5]), ([6], [6]), ([7], [7]), ([1, 2, 3, 4, 8], [1, 2, 3, 4, 8]), ([], []), ([9, 10, 10], [9, 10]), ([0, 11], [0, 11]), ([], []), ([13], [13]), ([12, 14], [12, 14]), ([15, 11, 0, 1, 2, 3, 4, 5, 6, 7, 8, 9, 10, 11, 12, 13, 14, 15], [15]), ([16, 0, 1, 2, 3, 4, 5, 6, 7, 8, 9, 10, 11, 12, 13, 14, 15, 16], [])])
def portmanteauref18_Print.B13 : List Nat := [0, 0, 0, 0, 0, 0, 32, 96, 224, 510, 0, 2046, 4095, 0, 8192, 32767, 65535, 131071]
theorem portmanteauref18_Print.tab13 : rtab .any (opsOf Try.f14 13) = portmanteauref18_Print.T13 := by kernel_rfl
theorem portmanteauref18_Print.bits13 : waitsOk portmanteauref18_Print.T13.2 portmanteauref18_Print.B13 = true := by kernel_rfl
set_option maxHeartbeats 8000000 in
set_option maxRecDepth 100000 in
theorem portmanteauref18_Print.calls (k : Nat) (a0_0 : Int) (a0_1 : Int) (a0_2 : Int) (a0_3 : Int) (a0_4 : ByteArray) (a0_5 : Bool) (r1 : ByteArray) (r2 : Int) (w : World) (h : portmanteauref18_Print.f k a0_0 a0_1 a0_2 a0_3 a0_4 a0_5 = some (r1, r2)) :
    Calls Try.prog 14 #[.agg #[.int .i64 a0_0, .int .u64 a0_1, .int .u64 a0_2, .int .u64 a0_3, .string a0_4, .bool a0_5]] w fun e w' => e = .returned (.tuple #[.string r1, .int .i64 r2]) ∧ Below w.heap.size w w' := by
  have hu29 := Try.underlying29
  have HB := Aside0.mk (Below.refl w.heap.size w)
  have H : (if (a0_4.size : Int) > 65535 then (some ((⟨#[]⟩ : ByteArray), 5)) else (if a0_5 = true then ((portmanteauref18_wides.f).bind fun t296 => ((portmanteauref17_Print.f k (([101075792, 44, 45, 45, 0, 0, a0_1, a0_1, a0_2, a0_3] : List Int)) t296).bind fun t299 => ((portmanteauref18_locators.f).bind fun t303 => ((portmanteauref17_Print.f k (([117853008, 0, IntKind.u64.wrap (a0_3 + a0_2), 1] : List Int)) t303).bind fun t306 => (if t299.size + t306.size ≤ 9223372036854775807 then ((portmanteauref18_ends.f).bind fun t310 => ((portmanteauref17_Print.f k (([101010256, 0, 0, 65535, 65535, 4294967295, 4294967295, IntKind.u64.wrap ((a0_4.size : Int))] : List Int)) t310).bind fun t313 => (if t299.size + t306.size + t313.size ≤ 9223372036854775807 then (if t299.size + t306.size + t313.size + a0_4.size ≤ 9223372036854775807 then (some (((t299 ++ t306) ++ t313) ++ a0_4, 0)) else (none)) else (none)))) else (none)))))) else (if a0_1 ≥ 65535 then (portmanteauref18_Print.j0 k (⟨#[]⟩ : ByteArray) a0_1 a0_2 a0_3 true a0_0 a0_1 a0_2 a0_3 a0_4 a0_5) else (if a0_2 ≥ 4294967295 then (portmanteauref18_Print.j0 k (⟨#[]⟩ : ByteArray) a0_1 a0_2 a0_3 true a0_0 a0_1 a0_2 a0_3 a0_4 a0_5) else (portmanteauref18_Print.j0 k (⟨#[]⟩ : ByteArray) a0_1 a0_2 a0_3 (decide (a0_3 ≥ 4294967295)) a0_0 a0_1 a0_2 a0_3 a0_4 a0_5))))) = some (r1, r2) := h
  clear h
  by_cases c2 : (a0_4.size : Int) > 65535
  · rw [if_pos c2] at H
    have c2b0 : decide (65535 < (a0_4.size : Int)) = true := decide_eq_true c2
    have c2b1 : decide (65535 < a0_4.size) = true := decide_eq_true (by omega)
    clear c2
    simp only [Option.some.injEq, Prod.mk.injEq] at H
    obtain ⟨rfl, rfl⟩ := H
    go_enter Try.func14, Try.ntmps14
    go_wp2_with (first | ((with_reducible refine gate_dst (N := 1) rfl ?_); refine box_event ?hg (N := 1) ?hd (cs := #[.int .i64 a0_0, .int .u64 a0_1, .int .u64 a0_2, .int .u64 a0_3, .string a0_4, .bool a0_5]) (t := 29) ?hr ?_; (case hd => rfl); (case hg => rfl); (case hr => first | (go_simp; done) | (go_simp; rfl)); intro gb292 hg w3 hbox hb; have n0_ := Aside0.mk (below_step (by repeat (first | (with_reducible first | exact HB.out | apply below_alloc | apply pw_below_drewN | apply below_drew1) | exact HB.out)) hb); have n1_ := Aside0.mk (hbox); have n2_ := Aside0.mk ((by rw [hg]; exact (below_size (by repeat (first | (with_reducible first | exact HB.out | apply below_alloc | apply pw_below_drewN | apply below_drew1) | exact HB.out))) : w.heap.size ≤ gb292)); have n3_ := Aside0.mk ((by rw [hg]; exact (below_size (by repeat (first | (with_reducible first | exact HB.out | apply below_alloc | apply pw_below_drewN | apply below_drew1) | exact HB.out))) : w.heap.size ≤ gb292)); clear HB; have HB := n0_; have BK292 := n1_; have GW292 := n2_; have GE292 := n3_; clear n0_ n1_ n2_ n3_; clear hb hbox hg; have hcz4_0 : w3.cell? ⟨gb292, 0, none⟩ = some (.int .i64 a0_0) := (blk_cell BK292.out 0).trans rfl; have hcz4_1 : w3.cell? ⟨gb292, 1, none⟩ = some (.int .u64 a0_1) := (blk_cell BK292.out 1).trans rfl; have hcz4_2 : w3.cell? ⟨gb292, 2, none⟩ = some (.int .u64 a0_2) := (blk_cell BK292.out 2).trans rfl; have hcz4_3 : w3.cell? ⟨gb292, 3, none⟩ = some (.int .u64 a0_3) := (blk_cell BK292.out 3).trans rfl; have hcz4_4 : w3.cell? ⟨gb292, 4, none⟩ = some (.string a0_4) := (blk_cell BK292.out 4).trans rfl; have hcz4_5 : w3.cell? ⟨gb292, 5, none⟩ = some (.bool a0_5) := (blk_cell BK292.out 5).trans rfl; have hfz4_0 := blk_frozen BK292.out 0; have hfz4_1 := blk_frozen BK292.out 1; have hfz4_2 := blk_frozen BK292.out 2; have hfz4_3 := blk_frozen BK292.out 3; have hfz4_4 := blk_frozen BK292.out 4; have hfz4_5 := blk_frozen BK292.out 5))
    go_ret2
    exact ⟨by first | rfl | (simp [errW_none, errW_some] <;> rfl) | (simp [*, errW_none, errW_some] <;> rfl), by repeat (first | (with_reducible first | exact HB.out | apply below_alloc | apply pw_below_drewN | apply below_drew1 | refine below_set ?_ GE292.out) | exact HB.out)⟩
  · rw [if_neg c2] at H
    have c2b0 : decide (65535 < (a0_4.size : Int)) = false := decide_eq_false c2
    have c2b1 : decide (65535 < a0_4.size) = false := decide_eq_false (by omega)
    clear c2
    by_cases c5 : a0_5 = true
    · subst c5
      have H1 : ((portmanteauref18_wides.f).bind fun t296 => ((portmanteauref17_Print.f k (([101075792, 44, 45, 45, 0, 0, a0_1, a0_1, a0_2, a0_3] : List Int)) t296).bind fun t299 => ((portmanteauref18_locators.f).bind fun t303 => ((portmanteauref17_Print.f k (([117853008, 0, IntKind.u64.wrap (a0_3 + a0_2), 1] : List Int)) t303).bind fun t306 => (if t299.size + t306.size ≤ 9223372036854775807 then ((portmanteauref18_ends.f).bind fun t310 => ((portmanteauref17_Print.f k (([101010256, 0, 0, 65535, 65535, 4294967295, 4294967295, IntKind.u64.wrap ((a0_4.size : Int))] : List Int)) t310).bind fun t313 => (if t299.size + t306.size + t313.size ≤ 9223372036854775807 then (if t299.size + t306.size + t313.size + a0_4.size ≤ 9223372036854775807 then (some (((t299 ++ t306) ++ t313) ++ a0_4, 0)) else (none)) else (none)))) else (none)))))) = some (r1, r2) := by rw [if_pos rfl] at H; exact H
      clear H
      have H := H1
      clear H1
      obtain ⟨y293, hy293⟩ : ∃ y_ : List Int, y_ = (([101075792, 44, 45, 45, 0, 0, a0_1, a0_1, a0_2, a0_3] : List Int)) := ⟨_, rfl⟩
      replace H : ((portmanteauref18_wides.f).bind fun t296 => ((portmanteauref17_Print.f k y293 t296).bind fun t299 => ((portmanteauref18_locators.f).bind fun t303 => ((portmanteauref17_Print.f k (([117853008, 0, IntKind.u64.wrap (a0_3 + a0_2), 1] : List Int)) t303).bind fun t306 => (if t299.size + t306.size ≤ 9223372036854775807 then ((portmanteauref18_ends.f).bind fun t310 => ((portmanteauref17_Print.f k (([101010256, 0, 0, 65535, 65535, 4294967295, 4294967295, IntKind.u64.wrap ((a0_4.size : Int))] : List Int)) t310).bind fun t313 => (if t299.size + t306.size + t313.size ≤ 9223372036854775807 then (if t299.size + t306.size + t313.size + a0_4.size ≤ 9223372036854775807 then (some (((t299 ++ t306) ++ t313) ++ a0_4, 0)) else (none)) else (none)))) else (none)))))) = some (r1, r2) := by first | (rw [hy293]; with_reducible exact H) | (have H2_ := (Option.bind_some _ _).symm.trans H; rw [hy293]; with_reducible exact H2_) | (have H2_ := (Option.bind_some _ _).symm.trans H; with_reducible exact H2_) | with_reducible exact H | (rw [hy293]; exact H) | exact H
      have Ny293 := Aside0.mk hy293
      clear hy293
      replace H := Option.bind_eq_some_iff.mp H
      obtain ⟨t296, A60, H⟩ := H
      replace H : ((portmanteauref17_Print.f k y293 t296).bind fun t299 => ((portmanteauref18_locators.f).bind fun t303 => ((portmanteauref17_Print.f k (([117853008, 0, IntKind.u64.wrap (a0_3 + a0_2), 1] : List Int)) t303).bind fun t306 => (if t299.size + t306.size ≤ 9223372036854775807 then ((portmanteauref18_ends.f).bind fun t310 => ((portmanteauref17_Print.f k (([101010256, 0, 0, 65535, 65535, 4294967295, 4294967295, IntKind.u64.wrap ((a0_4.size : Int))] : List Int)) t310).bind fun t313 => (if t299.size + t306.size + t313.size ≤ 9223372036854775807 then (if t299.size + t306.size + t313.size + a0_4.size ≤ 9223372036854775807 then (some (((t299 ++ t306) ++ t313) ++ a0_4, 0)) else (none)) else (none)))) else (none))))) = some (r1, r2) := H
      have A6 := Aside0.mk A60
      clear A60
      replace H := Option.bind_eq_some_iff.mp H
      obtain ⟨t299, A70, H⟩ := H
      replace H : ((portmanteauref18_locators.f).bind fun t303 => ((portmanteauref17_Print.f k (([117853008, 0, IntKind.u64.wrap (a0_3 + a0_2), 1] : List Int)) t303).bind fun t306 => (if t299.size + t306.size ≤ 9223372036854775807 then ((portmanteauref18_ends.f).bind fun t310 => ((portmanteauref17_Print.f k (([101010256, 0, 0, 65535, 65535, 4294967295, 4294967295, IntKind.u64.wrap ((a0_4.size : Int))] : List Int)) t310).bind fun t313 => (if t299.size + t306.size + t313.size ≤ 9223372036854775807 then (if t299.size + t306.size + t313.size + a0_4.size ≤ 9223372036854775807 then (some (((t299 ++ t306) ++ t313) ++ a0_4, 0)) else (none)) else (none)))) else (none)))) = some (r1, r2) := H
      have A7 := Aside0.mk A70
      clear A70
      obtain ⟨y300, hy300⟩ : ∃ y_ : List Int, y_ = (([117853008, 0, IntKind.u64.wrap (a0_3 + a0_2), 1] : List Int)) := ⟨_, rfl⟩
      replace H : ((portmanteauref18_locators.f).bind fun t303 => ((portmanteauref17_Print.f k y300 t303).bind fun t306 => (if t299.size + t306.size ≤ 9223372036854775807 then ((portmanteauref18_ends.f).bind fun t310 => ((portmanteauref17_Print.f k (([101010256, 0, 0, 65535, 65535, 4294967295, 4294967295, IntKind.u64.wrap ((a0_4.size : Int))] : List Int)) t310).bind fun t313 => (if t299.size + t306.size + t313.size ≤ 9223372036854775807 then (if t299.size + t306.size + t313.size + a0_4.size ≤ 9223372036854775807 then (some (((t299 ++ t306) ++ t313) ++ a0_4, 0)) else (none)) else (none)))) else (none)))) = some (r1, r2) := by first | (rw [hy300]; with_reducible exact H) | (have H2_ := (Option.bind_some _ _).symm.trans H; rw [hy300]; with_reducible exact H2_) | (have H2_ := (Option.bind_some _ _).symm.trans H; with_reducible exact H2_) | with_reducible exact H | (rw [hy300]; exact H) | exact H
      have Ny300 := Aside0.mk hy300
      clear hy300
      replace H := Option.bind_eq_some_iff.mp H
      obtain ⟨t303, A80, H⟩ := H
      replace H : ((portmanteauref17_Print.f k y300 t303).bind fun t306 => (if t299.size + t306.size ≤ 9223372036854775807 then ((portmanteauref18_ends.f).bind fun t310 => ((portmanteauref17_Print.f k (([101010256, 0, 0, 65535, 65535, 4294967295, 4294967295, IntKind.u64.wrap ((a0_4.size : Int))] : List Int)) t310).bind fun t313 => (if t299.size + t306.size + t313.size ≤ 9223372036854775807 then (if t299.size + t306.size + t313.size + a0_4.size ≤ 9223372036854775807 then (some (((t299 ++ t306) ++ t313) ++ a0_4, 0)) else (none)) else (none)))) else (none))) = some (r1, r2) := H
      have A8 := Aside0.mk A80
      clear A80
      replace H := Option.bind_eq_some_iff.mp H
      obtain ⟨t306, A90, H⟩ := H
      replace H : (if t299.size + t306.size ≤ 9223372036854775807 then ((portmanteauref18_ends.f).bind fun t310 => ((portmanteauref17_Print.f k (([101010256, 0, 0, 65535, 65535, 4294967295, 4294967295, IntKind.u64.wrap ((a0_4.size : Int))] : List Int)) t310).bind fun t313 => (if t299.size + t306.size + t313.size ≤ 9223372036854775807 then (if t299.size + t306.size + t313.size + a0_4.size ≤ 9223372036854775807 then (some (((t299 ++ t306) ++ t313) ++ a0_4, 0)) else (none)) else (none)))) else (none)) = some (r1, r2) := H
      have A9 := Aside0.mk A90
      clear A90
      by_cases c10 : t299.size + t306.size ≤ 9223372036854775807
      · rw [if_pos c10] at H
        have c10b0 := eq_true c10
        have c10b1 : decide (t299.size + t306.size ≤ 9223372036854775807) = true := decide_eq_true c10
        try have c10b2 : (9223372036854775807 < t299.size + t306.size) = False := eq_false (Nat.not_lt.2 c10)
        obtain ⟨y307, hy307⟩ : ∃ y_ : List Int, y_ = (([101010256, 0, 0, 65535, 65535, 4294967295, 4294967295, IntKind.u64.wrap ((a0_4.size : Int))] : List Int)) := ⟨_, rfl⟩
        replace H : ((portmanteauref18_ends.f).bind fun t310 => ((portmanteauref17_Print.f k y307 t310).bind fun t313 => (if t299.size + t306.size + t313.size ≤ 9223372036854775807 then (if t299.size + t306.size + t313.size + a0_4.size ≤ 9223372036854775807 then (some (((t299 ++ t306) ++ t313) ++ a0_4, 0)) else (none)) else (none)))) = some (r1, r2) := by first | (rw [hy307]; with_reducible exact H) | (have H2_ := (Option.bind_some _ _).symm.trans H; rw [hy307]; with_reducible exact H2_) | (have H2_ := (Option.bind_some _ _).symm.trans H; with_reducible exact H2_) | with_reducible exact H | (rw [hy307]; exact H) | exact H
        have Ny307 := Aside0.mk hy307
        clear hy307
        replace H := Option.bind_eq_some_iff.mp H
        obtain ⟨t310, A110, H⟩ := H
        replace H : ((portmanteauref17_Print.f k y307 t310).bind fun t313 => (if t299.size + t306.size + t313.size ≤ 9223372036854775807 then (if t299.size + t306.size + t313.size + a0_4.size ≤ 9223372036854775807 then (some (((t299 ++ t306) ++ t313) ++ a0_4, 0)) else (none)) else (none))) = some (r1, r2) := H
        have A11 := Aside0.mk A110
        clear A110
        replace H := Option.bind_eq_some_iff.mp H
        obtain ⟨t313, A120, H⟩ := H
        replace H : (if t299.size + t306.size + t313.size ≤ 9223372036854775807 then (if t299.size + t306.size + t313.size + a0_4.size ≤ 9223372036854775807 then (some (((t299 ++ t306) ++ t313) ++ a0_4, 0)) else (none)) else (none)) = some (r1, r2) := H
        have A12 := Aside0.mk A120
        clear A120
        by_cases c13 : t299.size + t306.size + t313.size ≤ 9223372036854775807
        · rw [if_pos c13] at H
          have c13b0 := eq_true c13
          have c13b1 : decide (t299.size + t306.size + t313.size ≤ 9223372036854775807) = true := decide_eq_true c13
          try have c13b2 : (9223372036854775807 < t299.size + t306.size + t313.size) = False := eq_false (Nat.not_lt.2 c13)
          by_cases c14 : t299.size + t306.size + t313.size + a0_4.size ≤ 9223372036854775807
          · rw [if_pos c14] at H
            have c14b0 := eq_true c14
            have c14b1 : decide (t299.size + t306.size + t313.size + a0_4.size ≤ 9223372036854775807) = true := decide_eq_true c14
            try have c14b2 : (9223372036854775807 < t299.size + t306.size + t313.size + a0_4.size) = False := eq_false (Nat.not_lt.2 c14)
            simp only [Option.some.injEq, Prod.mk.injEq] at H
            obtain ⟨rfl, rfl⟩ := H
            go_enter Try.func14, Try.ntmps14
            try go_wp2_with (first | ((with_reducible refine gate_dst (N := 1) rfl ?_); refine box_event ?hg (N := 1) ?hd (cs := #[.int .i64 a0_0, .int .u64 a0_1, .int .u64 a0_2, .int .u64 a0_3, .string a0_4, .bool true]) (t := 29) ?hr ?_; (case hd => rfl); (case hg => rfl); (case hr => first | (go_simp; done) | (go_simp; rfl)); intro gb292 hg w15 hbox hb; have n0_ := Aside0.mk (below_step (by repeat (first | (with_reducible first | exact HB.out | apply below_alloc | apply pw_below_drewN | apply below_drew1) | exact HB.out)) hb); have n1_ := Aside0.mk (hbox); have n2_ := Aside0.mk ((by rw [hg]; exact (below_size (by repeat (first | (with_reducible first | exact HB.out | apply below_alloc | apply pw_below_drewN | apply below_drew1) | exact HB.out))) : w.heap.size ≤ gb292)); have n3_ := Aside0.mk ((by rw [hg]; exact (below_size (by repeat (first | (with_reducible first | exact HB.out | apply below_alloc | apply pw_below_drewN | apply below_drew1) | exact HB.out))) : w.heap.size ≤ gb292)); clear HB; have HB := n0_; have BK292 := n1_; have GW292 := n2_; have GE292 := n3_; clear n0_ n1_ n2_ n3_; clear hb hbox hg; have hcz16_0 : w15.cell? ⟨gb292, 0, none⟩ = some (.int .i64 a0_0) := (blk_cell BK292.out 0).trans rfl; have hcz16_1 : w15.cell? ⟨gb292, 1, none⟩ = some (.int .u64 a0_1) := (blk_cell BK292.out 1).trans rfl; have hcz16_2 : w15.cell? ⟨gb292, 2, none⟩ = some (.int .u64 a0_2) := (blk_cell BK292.out 2).trans rfl; have hcz16_3 : w15.cell? ⟨gb292, 3, none⟩ = some (.int .u64 a0_3) := (blk_cell BK292.out 3).trans rfl; have hcz16_4 : w15.cell? ⟨gb292, 4, none⟩ = some (.string a0_4) := (blk_cell BK292.out 4).trans rfl; have hcz16_5 : w15.cell? ⟨gb292, 5, none⟩ = some (.bool true) := (blk_cell BK292.out 5).trans rfl; have hfz16_0 := blk_frozen BK292.out 0; have hfz16_1 := blk_frozen BK292.out 1; have hfz16_2 := blk_frozen BK292.out 2; have hfz16_3 := blk_frozen BK292.out 3; have hfz16_4 := blk_frozen BK292.out 4; have hfz16_5 := blk_frozen BK292.out 5))
            have n0_ := Aside0.mk (blk_drew BK292.out)
            have n1_ := Aside0.mk (below_drew1 HB.out)
            clear BK292
            clear HB
            have BK292 := n0_
            have HB := n1_
            clear n0_ n1_
            refine start_ (n := 9) (S := fun w' => w'.cell? ⟨gb292, 0, none⟩ = some (.int .i64 a0_0) ∧ w'.cell? ⟨gb292, 1, none⟩ = some (.int .u64 a0_1) ∧ w'.cell? ⟨gb292, 2, none⟩ = some (.int .u64 a0_2) ∧ w'.cell? ⟨gb292, 3, none⟩ = some (.int .u64 a0_3) ∧ w'.cell? ⟨gb292, 4, none⟩ = some (.string a0_4) ∧ w'.cell? ⟨gb292, 5, none⟩ = some (.bool true)) (ds := []) #[false, false, false, false, false, false, false, false, false] (by kernel_rfl) rfl rfl ⟨(blk_cell BK292.out 0).trans rfl, (blk_cell BK292.out 1).trans rfl, (blk_cell BK292.out 2).trans rfl, (blk_cell BK292.out 3).trans rfl, (blk_cell BK292.out 4).trans rfl, (blk_cell BK292.out 5).trans rfl⟩ (fun hHeld => ?_); refine with_tabW portmanteauref18_Print.tab4 portmanteauref18_Print.bits4 (fun HT_ HW_ => ?_)
            generalize w15.drew = w17 at BK292 HB hHeld ⊢
            refine pure_ (i := 0) (N := some 12) (v := ?_) (a' := ?_) #[true, false, false, false, false, false, false, false, false] rfl rfl (any_of HT_.out (by kernel_rfl)) (fun _ _ _ h => h) (Or.inl ⟨by rfl, ?_⟩) ?_ ?_
            rotate_left
            · intro w'
              go_simp
              with_reducible rfl
            rotate_left
            · simp only [Act.put, List.setIfInBounds_toArray, List.set_cons_zero, List.set_cons_succ, i64_w, i32_w]
              rfl
            refine pure_ (i := 2) (N := some 14) (v := ?_) (a' := ?_) #[true, false, true, false, false, false, false, false, false] rfl rfl (any_of HT_.out (by kernel_rfl)) (fun _ _ _ h => h) (Or.inl ⟨by rfl, ?_⟩) ?_ ?_
            rotate_left
            · intro w'
              go_simp
              with_reducible rfl
            rotate_left
            · simp only [Act.put, List.setIfInBounds_toArray, List.set_cons_zero, List.set_cons_succ, i64_w, i32_w]
              rfl
            refine pure_ (i := 4) (N := some 16) (v := ?_) (a' := ?_) #[true, false, true, false, true, false, false, false, false] rfl rfl (any_of HT_.out (by kernel_rfl)) (fun _ _ _ h => h) (Or.inl ⟨by rfl, ?_⟩) ?_ ?_
            rotate_left
            · intro w'
              go_simp
              with_reducible rfl
            rotate_left
            · simp only [Act.put, List.setIfInBounds_toArray, List.set_cons_zero, List.set_cons_succ, i64_w, i32_w]
              rfl
            refine take_ (i := 1) (N := some 13) (v := ?_) (a' := ?_) #[true, true, true, false, true, false, false, false, false] rfl rfl (take_ofW HT_.out HW_.out (by kernel_rfl)) (fun _ _ _ h => h) (Or.inl ⟨by rfl, ?_⟩) hHeld ?_ ?_
            rotate_left
            · rintro w' ⟨s0, s1, s2, s3, s4, s5⟩
              go_simp
              with_reducible rfl
            rotate_left
            · simp only [Act.put, List.setIfInBounds_toArray, List.set_cons_zero, List.set_cons_succ, i64_w, i32_w]
              rfl
            refine pure_ (i := 6) (N := some 5) (v := ?_) (a' := ?_) #[true, true, true, false, true, false, true, false, false] rfl rfl (any_of HT_.out (by kernel_rfl)) (fun _ _ _ h => h) (Or.inl ⟨by rfl, ?_⟩) ?_ ?_
            rotate_left
            · intro w'
              go_simp
              with_reducible rfl
            rotate_left
            · simp only [Act.put, List.setIfInBounds_toArray, List.set_cons_zero, List.set_cons_succ, i64_w, i32_w]
              rfl
            refine take_ (i := 3) (N := some 15) (v := ?_) (a' := ?_) #[true, true, true, true, true, false, true, false, false] rfl rfl (take_ofW HT_.out HW_.out (by kernel_rfl)) (fun _ _ _ h => h) (Or.inl ⟨by rfl, ?_⟩) hHeld ?_ ?_
            rotate_left
            · rintro w' ⟨s0, s1, s2, s3, s4, s5⟩
              go_simp
              with_reducible rfl
            rotate_left
            · simp only [Act.put, List.setIfInBounds_toArray, List.set_cons_zero, List.set_cons_succ, i64_w, i32_w]
              rfl
            refine pure_ (i := 7) (N := some 6) (v := ?_) (a' := ?_) #[true, true, true, true, true, false, true, true, false] rfl rfl (any_of HT_.out (by kernel_rfl)) (fun _ _ _ h => h) (Or.inl ⟨by rfl, ?_⟩) ?_ ?_
            rotate_left
            · intro w'
              go_simp
              with_reducible rfl
            rotate_left
            · simp only [Act.put, List.setIfInBounds_toArray, List.set_cons_zero, List.set_cons_succ, i64_w, i32_w]
              rfl
            refine take_ (i := 5) (N := some 17) (v := ?_) (a' := ?_) #[true, true, true, true, true, true, true, true, false] rfl rfl (take_ofW HT_.out HW_.out (by kernel_rfl)) (fun _ _ _ h => h) (Or.inl ⟨by rfl, ?_⟩) hHeld ?_ ?_
            rotate_left
            · rintro w' ⟨s0, s1, s2, s3, s4, s5⟩
              go_simp
              with_reducible rfl
            rotate_left
            · simp only [Act.put, List.setIfInBounds_toArray, List.set_cons_zero, List.set_cons_succ, i64_w, i32_w]
              rfl
            refine pure_ (i := 8) (N := some 7) (v := ?_) (a' := ?_) #[true, true, true, true, true, true, true, true, true] rfl rfl (any_of HT_.out (by kernel_rfl)) (fun _ _ _ h => h) (Or.inl ⟨by rfl, ?_⟩) ?_ ?_
            rotate_left
            · intro w'
              go_simp
              with_reducible rfl
            rotate_left
            · simp only [Act.put, List.setIfInBounds_toArray, List.set_cons_zero, List.set_cons_succ, i64_w, i32_w]
              rfl
            refine done_ (done_of HT_.out (by kernel_rfl)) ?_
            have hcz18_0 : w17.cell? ⟨gb292, 0, none⟩ = some (.int .i64 a0_0) := (blk_cell BK292.out 0).trans rfl
            have hcz18_1 : w17.cell? ⟨gb292, 1, none⟩ = some (.int .u64 a0_1) := (blk_cell BK292.out 1).trans rfl
            have hcz18_2 : w17.cell? ⟨gb292, 2, none⟩ = some (.int .u64 a0_2) := (blk_cell BK292.out 2).trans rfl
            have hcz18_3 : w17.cell? ⟨gb292, 3, none⟩ = some (.int .u64 a0_3) := (blk_cell BK292.out 3).trans rfl
            have hcz18_4 : w17.cell? ⟨gb292, 4, none⟩ = some (.string a0_4) := (blk_cell BK292.out 4).trans rfl
            have hcz18_5 : w17.cell? ⟨gb292, 5, none⟩ = some (.bool true) := (blk_cell BK292.out 5).trans rfl
            have hfz18_0 := blk_frozen BK292.out 0
            have hfz18_1 := blk_frozen BK292.out 1
            have hfz18_2 := blk_frozen BK292.out 2
            have hfz18_3 := blk_frozen BK292.out 3
            have hfz18_4 := blk_frozen BK292.out 4
            have hfz18_5 := blk_frozen BK292.out 5
            try go_wp2_with (first | ((with_reducible refine gate_dst (N := 24) rfl ?_); refine Kd.R_lit (Kd.int .u64) _ 23 ?hg (N := 24) ?hd (xs := ([101075792, 44, 45, 45, 0, 0, a0_1, a0_1, a0_2, a0_3] : List Int)) (inner := [.int .u64 101075792, .int .u64 44, .int .u64 45, .int .u64 45, .int .u64 0, .int .u64 0, .int .u64 a0_1, .int .u64 a0_1, .int .u64 a0_2, .int .u64 a0_3]) (ok := fun _ => True) (okp := fun _ => True) ?hr ?hp (fun _ hk => hk) trivial (Below.refl _ _) (Nat.le_refl _) (by simp) ?_; (case hd => rfl); (case hg => rfl); (case hr => first | (go_simp; done) | (go_simp; rfl)); (case hp => exact (Reps.one (show Kd.M (Kd.int .u64) _ _ _ 101075792 [.int .u64 101075792] from rfl) (Reps.one (show Kd.M (Kd.int .u64) _ _ _ 44 [.int .u64 44] from rfl) (Reps.one (show Kd.M (Kd.int .u64) _ _ _ 45 [.int .u64 45] from rfl) (Reps.one (show Kd.M (Kd.int .u64) _ _ _ 45 [.int .u64 45] from rfl) (Reps.one (show Kd.M (Kd.int .u64) _ _ _ 0 [.int .u64 0] from rfl) (Reps.one (show Kd.M (Kd.int .u64) _ _ _ 0 [.int .u64 0] from rfl) (Reps.one (show Kd.M (Kd.int .u64) _ _ _ a0_1 [.int .u64 a0_1] from rfl) (Reps.one (show Kd.M (Kd.int .u64) _ _ _ a0_1 [.int .u64 a0_1] from rfl) (Reps.one (show Kd.M (Kd.int .u64) _ _ _ a0_2 [.int .u64 a0_2] from rfl) (Reps.one (show Kd.M (Kd.int .u64) _ _ _ a0_3 [.int .u64 a0_3] from rfl) (Reps.none _ _)))))))))))); intro v294 w19 ho20 hb hg_ hnew_; clear hg_ hnew_; (first | rw [← Ny293.out] at ho20 | (simp only [Int.reduceToNat] at ho20; rw [← Ny293.out] at ho20)); have n0_ := Aside0.mk (Kd.R_lower ho20 (below_size (by repeat (first | (with_reducible first | exact HB.out | apply below_alloc | apply pw_below_drewN | apply below_drew1 | refine below_set ?_ GE292.out) | exact HB.out)))); have n1_ := Aside0.mk (blk_below (g := gb292) (o := .cells #[.int .i64 a0_0, .int .u64 a0_1, .int .u64 a0_2, .int .u64 a0_3, .string a0_4, .bool true] 29 (0, 0)) (by (with_reducible repeat (first | refine blk_drewN ?_ _ | refine blk_drew ?_ | refine blk_alloc ?_ _)); exact BK292.out) hb); have n2_ := Aside0.mk (below_step (by repeat (first | (with_reducible first | exact HB.out | apply below_alloc | apply pw_below_drewN | apply below_drew1 | refine below_set ?_ GE292.out) | exact HB.out)) hb); clear BK292; clear HB; have HO295 := n0_; have BK292 := n1_; have HB := n2_; clear n0_ n1_ n2_; clear hb ho20) | ((with_reducible refine gate_callee (f := 24) rfl ?_); refine goesL_ (some 25) rfl rfl Try.func24 (by kernel_rfl) rfl #[] rfl (by (try simp only [List.map_toArray, List.map_cons, List.map_nil]); first | done | rfl | (simp only [List.length_drop, List.length_take]; rfl)) ?_; (with_reducible refine (portmanteauref18_wides.calls  t296 _ A6.out).mono ?_); rintro e w21 ⟨v297, rfl, ho0, hb⟩; refine ⟨_, rfl, ?_⟩; have n0_ := Aside0.mk (Kd.R_below (by (with_reducible repeat (first | apply Kd.R_alloc | apply Kd.R_drewN | apply Kd.R_drew)); exact HO295.out) hb); have n1_ := Aside0.mk (Kd.R_lower ho0 (below_size (by repeat (first | (with_reducible first | exact HB.out | apply below_alloc | apply pw_below_drewN | apply below_drew1 | refine below_set ?_ GE292.out) | exact HB.out)))); have n2_ := Aside0.mk (blk_below (g := gb292) (o := .cells #[.int .i64 a0_0, .int .u64 a0_1, .int .u64 a0_2, .int .u64 a0_3, .string a0_4, .bool true] 29 (0, 0)) (by (with_reducible repeat (first | refine blk_drewN ?_ _ | refine blk_drew ?_ | refine blk_alloc ?_ _)); exact BK292.out) hb); have n3_ := Aside0.mk (below_step (by repeat (first | (with_reducible first | exact HB.out | apply below_alloc | apply pw_below_drewN | apply below_drew1 | refine below_set ?_ GE292.out) | exact HB.out)) hb); clear HO295; clear BK292; clear HB; have HO295 := n0_; have HO298 := n1_; have BK292 := n2_; have HB := n3_; clear n0_ n1_ n2_ n3_; (try clear hb); (try clear hb2); (try clear hk); (try clear hi); (try clear ho0); obtain ⟨Ao22, co22, eo22⟩ := Kd.R_slice HO295.out; subst eo22; obtain ⟨Ao23, co23, eo23⟩ := Kd.R_slice HO298.out; subst eo23) | ((with_reducible refine gate_callee (f := 37) rfl ?_); refine goesL_ (some 26) rfl rfl Try.func37 (by kernel_rfl) rfl #[.slice Ao22 y293.length co22, .slice Ao23 t296.length co23] rfl (by (try simp only [List.map_toArray, List.map_cons, List.map_nil]); first | done | rfl | (simp only [List.length_drop, List.length_take]; rfl)) ?_; (with_reducible refine (portmanteauref17_Print.calls k _ _ y293 _ _ t296 t299 _ ?side1 ?side2 ?side3 ?side4 A7.out).mono ?_); (case side1 => repeat (first | exact (Kd.R_reads' HO295.out).2.2 | (with_reducible refine Kd.C_alloc ?_ _) | (with_reducible refine Kd.C_drewN ?_ _) | (with_reducible refine Kd.C_drew ?_))); (case side2 => exact (Kd.R_reads' HO295.out).2.1); (case side3 => repeat (first | exact (Kd.R_reads' HO298.out).2.2 | (with_reducible refine Kd.C_alloc ?_ _) | (with_reducible refine Kd.C_drewN ?_ _) | (with_reducible refine Kd.C_drew ?_))); (case side4 => exact (Kd.R_reads' HO298.out).2.1); rintro e w24 ⟨rfl, hb⟩; refine ⟨_, rfl, ?_⟩; have n0_ := Aside0.mk (Kd.R_below (by (with_reducible repeat (first | apply Kd.R_alloc | apply Kd.R_drewN | apply Kd.R_drew)); exact HO295.out) hb); have n1_ := Aside0.mk (Kd.R_below (by (with_reducible repeat (first | apply Kd.R_alloc | apply Kd.R_drewN | apply Kd.R_drew)); exact HO298.out) hb); have n2_ := Aside0.mk (blk_below (g := gb292) (o := .cells #[.int .i64 a0_0, .int .u64 a0_1, .int .u64 a0_2, .int .u64 a0_3, .string a0_4, .bool true] 29 (0, 0)) (by (with_reducible repeat (first | refine blk_drewN ?_ _ | refine blk_drew ?_ | refine blk_alloc ?_ _)); exact BK292.out) hb); have n3_ := Aside0.mk (below_step (by repeat (first | (with_reducible first | exact HB.out | apply below_alloc | apply pw_below_drewN | apply below_drew1 | refine below_set ?_ GE292.out) | exact HB.out)) hb); clear HO295; clear HO298; clear BK292; clear HB; have HO295 := n0_; have HO298 := n1_; have BK292 := n2_; have HB := n3_; clear n0_ n1_ n2_ n3_; (try clear hb); (try clear hb2); (try clear hk); (try clear hi)) | ((with_reducible refine gate_dst (N := 31) rfl ?_); refine Kd.R_lit (Kd.int .u64) _ 23 ?hg (N := 31) ?hd (xs := ([117853008, 0, IntKind.u64.wrap (a0_3 + a0_2), 1] : List Int)) (inner := [.int .u64 117853008, .int .u64 0, .int .u64 (IntKind.u64.wrap (a0_3 + a0_2)), .int .u64 1]) (ok := fun _ => True) (okp := fun _ => True) ?hr ?hp (fun _ hk => hk) trivial (Below.refl _ _) (Nat.le_refl _) (by simp) ?_; (case hd => rfl); (case hg => rfl); (case hr => first | (go_simp; done) | (go_simp; rfl)); (case hp => exact (Reps.one (show Kd.M (Kd.int .u64) _ _ _ 117853008 [.int .u64 117853008] from rfl) (Reps.one (show Kd.M (Kd.int .u64) _ _ _ 0 [.int .u64 0] from rfl) (Reps.one (show Kd.M (Kd.int .u64) _ _ _ (IntKind.u64.wrap (a0_3 + a0_2)) [.int .u64 (IntKind.u64.wrap (a0_3 + a0_2))] from rfl) (Reps.one (show Kd.M (Kd.int .u64) _ _ _ 1 [.int .u64 1] from rfl) (Reps.none _ _)))))); intro v301 w25 ho26 hb hg_ hnew_; clear hg_ hnew_; (first | rw [← Ny300.out] at ho26 | (simp only [Int.reduceToNat] at ho26; rw [← Ny300.out] at ho26)); have n0_ := Aside0.mk (Kd.R_elder' (by (with_reducible repeat (first | apply Kd.R_alloc | apply Kd.R_drewN | apply Kd.R_drew)); exact HO295.out) (Kd.R_base ho26) hb); have n1_ := Aside0.mk (Kd.R_below (by (with_reducible repeat (first | apply Kd.R_alloc | apply Kd.R_drewN | apply Kd.R_drew)); exact HO298.out) hb); have n2_ := Aside0.mk (Kd.R_lower (Kd.R_new' ho26 (Kd.R_lt (by (with_reducible repeat (first | apply Kd.R_alloc | apply Kd.R_drewN | apply Kd.R_drew)); exact HO295.out))) (below_size (by repeat (first | (with_reducible first | exact HB.out | apply below_alloc | apply pw_below_drewN | apply below_drew1 | refine below_set ?_ GE292.out) | exact HB.out)))); have n3_ := Aside0.mk (blk_below (g := gb292) (o := .cells #[.int .i64 a0_0, .int .u64 a0_1, .int .u64 a0_2, .int .u64 a0_3, .string a0_4, .bool true] 29 (0, 0)) (by (with_reducible repeat (first | refine blk_drewN ?_ _ | refine blk_drew ?_ | refine blk_alloc ?_ _)); exact BK292.out) hb); have n4_ := Aside0.mk (below_step (by repeat (first | (with_reducible first | exact HB.out | apply below_alloc | apply pw_below_drewN | apply below_drew1 | refine below_set ?_ GE292.out) | exact HB.out)) hb); clear HO295; clear HO298; clear BK292; clear HB; have HO295 := n0_; have HO298 := n1_; have HO302 := n2_; have BK292 := n3_; have HB := n4_; clear n0_ n1_ n2_ n3_ n4_; clear hb ho26) | ((with_reducible refine gate_callee (f := 23) rfl ?_); refine goesL_ (some 32) rfl rfl Try.func23 (by kernel_rfl) rfl #[] rfl (by (try simp only [List.map_toArray, List.map_cons, List.map_nil]); first | done | rfl | (simp only [List.length_drop, List.length_take]; rfl)) ?_; (with_reducible refine (portmanteauref18_locators.calls  t303 _ A8.out).mono ?_); rintro e w27 ⟨v304, rfl, ho0, hb⟩; refine ⟨_, rfl, ?_⟩; have n0_ := Aside0.mk (Kd.R_below (by (with_reducible repeat (first | apply Kd.R_alloc | apply Kd.R_drewN | apply Kd.R_drew)); exact HO295.out) hb); have n1_ := Aside0.mk (Kd.R_elder' (by (with_reducible repeat (first | apply Kd.R_alloc | apply Kd.R_drewN | apply Kd.R_drew)); exact HO298.out) (Kd.R_base ho0) hb); have n2_ := Aside0.mk (Kd.R_below (by (with_reducible repeat (first | apply Kd.R_alloc | apply Kd.R_drewN | apply Kd.R_drew)); exact HO302.out) hb); have n3_ := Aside0.mk (Kd.R_lower (Kd.R_new' ho0 (Kd.R_lt (by (with_reducible repeat (first | apply Kd.R_alloc | apply Kd.R_drewN | apply Kd.R_drew)); exact HO298.out))) (below_size (by repeat (first | (with_reducible first | exact HB.out | apply below_alloc | apply pw_below_drewN | apply below_drew1 | refine below_set ?_ GE292.out) | exact HB.out)))); have n4_ := Aside0.mk (blk_below (g := gb292) (o := .cells #[.int .i64 a0_0, .int .u64 a0_1, .int .u64 a0_2, .int .u64 a0_3, .string a0_4, .bool true] 29 (0, 0)) (by (with_reducible repeat (first | refine blk_drewN ?_ _ | refine blk_drew ?_ | refine blk_alloc ?_ _)); exact BK292.out) hb); have n5_ := Aside0.mk (below_step (by repeat (first | (with_reducible first | exact HB.out | apply below_alloc | apply pw_below_drewN | apply below_drew1 | refine below_set ?_ GE292.out) | exact HB.out)) hb); clear HO295; clear HO298; clear HO302; clear BK292; clear HB; have HO295 := n0_; have HO298 := n1_; have HO302 := n2_; have HO305 := n3_; have BK292 := n4_; have HB := n5_; clear n0_ n1_ n2_ n3_ n4_ n5_; (try clear hb); (try clear hb2); (try clear hk); (try clear hi); (try clear ho0); obtain ⟨Ao28, co28, eo28⟩ := Kd.R_slice HO302.out; subst eo28; obtain ⟨Ao29, co29, eo29⟩ := Kd.R_slice HO305.out; subst eo29) | ((with_reducible refine gate_callee (f := 37) rfl ?_); refine goesL_ (some 33) rfl rfl Try.func37 (by kernel_rfl) rfl #[.slice Ao28 y300.length co28, .slice Ao29 t303.length co29] rfl (by (try simp only [List.map_toArray, List.map_cons, List.map_nil]); first | done | rfl | (simp only [List.length_drop, List.length_take]; rfl)) ?_; (with_reducible refine (portmanteauref17_Print.calls k _ _ y300 _ _ t303 t306 _ ?side1 ?side2 ?side3 ?side4 A9.out).mono ?_); (case side1 => repeat (first | exact (Kd.R_reads' HO302.out).2.2 | (with_reducible refine Kd.C_alloc ?_ _) | (with_reducible refine Kd.C_drewN ?_ _) | (with_reducible refine Kd.C_drew ?_))); (case side2 => exact (Kd.R_reads' HO302.out).2.1); (case side3 => repeat (first | exact (Kd.R_reads' HO305.out).2.2 | (with_reducible refine Kd.C_alloc ?_ _) | (with_reducible refine Kd.C_drewN ?_ _) | (with_reducible refine Kd.C_drew ?_))); (case side4 => exact (Kd.R_reads' HO305.out).2.1); rintro e w30 ⟨rfl, hb⟩; refine ⟨_, rfl, ?_⟩; have n0_ := Aside0.mk (Kd.R_below (by (with_reducible repeat (first | apply Kd.R_alloc | apply Kd.R_drewN | apply Kd.R_drew)); exact HO295.out) hb); have n1_ := Aside0.mk (Kd.R_below (by (with_reducible repeat (first | apply Kd.R_alloc | apply Kd.R_drewN | apply Kd.R_drew)); exact HO298.out) hb); have n2_ := Aside0.mk (Kd.R_below (by (with_reducible repeat (first | apply Kd.R_alloc | apply Kd.R_drewN | apply Kd.R_drew)); exact HO302.out) hb); have n3_ := Aside0.mk (Kd.R_below (by (with_reducible repeat (first | apply Kd.R_alloc | apply Kd.R_drewN | apply Kd.R_drew)); exact HO305.out) hb); have n4_ := Aside0.mk (blk_below (g := gb292) (o := .cells #[.int .i64 a0_0, .int .u64 a0_1, .int .u64 a0_2, .int .u64 a0_3, .string a0_4, .bool true] 29 (0, 0)) (by (with_reducible repeat (first | refine blk_drewN ?_ _ | refine blk_drew ?_ | refine blk_alloc ?_ _)); exact BK292.out) hb); have n5_ := Aside0.mk (below_step (by repeat (first | (with_reducible first | exact HB.out | apply below_alloc | apply pw_below_drewN | apply below_drew1 | refine below_set ?_ GE292.out) | exact HB.out)) hb); clear HO295; clear HO298; clear HO302; clear HO305; clear BK292; clear HB; have HO295 := n0_; have HO298 := n1_; have HO302 := n2_; have HO305 := n3_; have BK292 := n4_; have HB := n5_; clear n0_ n1_ n2_ n3_ n4_ n5_; (try clear hb); (try clear hb2); (try clear hk); (try clear hi)))
            have n0_ := Aside0.mk (Kd.R_drew HO295.out)
            have n1_ := Aside0.mk (Kd.R_drew HO298.out)
            have n2_ := Aside0.mk (Kd.R_drew HO302.out)
            have n3_ := Aside0.mk (Kd.R_drew HO305.out)
            have n4_ := Aside0.mk (blk_drew BK292.out)
            have n5_ := Aside0.mk (below_drew1 HB.out)
            clear HO295
            clear HO298
            clear HO302
            clear HO305
            clear BK292
            clear HB
            have HO295 := n0_
            have HO298 := n1_
            have HO302 := n2_
            have HO305 := n3_
            have BK292 := n4_
            have HB := n5_
            clear n0_ n1_ n2_ n3_ n4_ n5_
            refine start_ (n := 18) (S := fun w' => True) (ds := []) #[false, false, false, false, false, false, false, false, false, false, false, false, false, false, false, false, false, false] (by kernel_rfl) rfl rfl trivial (fun hHeld => ?_); refine with_tabW portmanteauref18_Print.tab13 portmanteauref18_Print.bits13 (fun HT_ HW_ => ?_)
            generalize w30.drew = w31 at HO295 HO298 HO302 HO305 BK292 HB hHeld ⊢
            refine pure_ (i := 0) (N := some 45) (v := ?_) (a' := ?_) #[true, false, false, false, false, false, false, false, false, false, false, false, false, false, false, false, false, false] rfl rfl (any_of HT_.out (by kernel_rfl)) (fun _ _ _ h => h) (Or.inl ⟨by rfl, ?_⟩) ?_ ?_
            rotate_left
            · intro w'
              go_simp
              with_reducible rfl
            rotate_left
            · simp only [Act.put, List.setIfInBounds_toArray, List.set_cons_zero, List.set_cons_succ, i64_w, i32_w]
              rfl
            refine pure_ (i := 1) (N := some 46) (v := ?_) (a' := ?_) #[true, true, false, false, false, false, false, false, false, false, false, false, false, false, false, false, false, false] rfl rfl (any_of HT_.out (by kernel_rfl)) (fun _ _ _ h => h) (Or.inl ⟨by rfl, ?_⟩) ?_ ?_
            rotate_left
            · intro w'
              go_simp
              with_reducible rfl
            rotate_left
            · simp only [Act.put, List.setIfInBounds_toArray, List.set_cons_zero, List.set_cons_succ, i64_w, i32_w]
              rfl
            refine pure_ (i := 2) (N := some 47) (v := ?_) (a' := ?_) #[true, true, true, false, false, false, false, false, false, false, false, false, false, false, false, false, false, false] rfl rfl (any_of HT_.out (by kernel_rfl)) (fun _ _ _ h => h) (Or.inl ⟨by rfl, ?_⟩) ?_ ?_
            rotate_left
            · intro w'
              go_simp
              with_reducible rfl
            rotate_left
            · simp only [Act.put, List.setIfInBounds_toArray, List.set_cons_zero, List.set_cons_succ, i64_w, i32_w]
              rfl
            refine pure_ (i := 3) (N := some 48) (v := ?_) (a' := ?_) #[true, true, true, true, false, false, false, false, false, false, false, false, false, false, false, false, false, false] rfl rfl (any_of HT_.out (by kernel_rfl)) (fun _ _ _ h => h) (Or.inl ⟨by rfl, ?_⟩) ?_ ?_
            rotate_left
            · intro w'
              go_simp
              with_reducible rfl
            rotate_left
            · simp only [Act.put, List.setIfInBounds_toArray, List.set_cons_zero, List.set_cons_succ, i64_w, i32_w]
              rfl
            refine pure_ (i := 4) (N := some 49) (v := ?_) (a' := ?_) #[true, true, true, true, true, false, false, false, false, false, false, false, false, false, false, false, false, false] rfl rfl (any_of HT_.out (by kernel_rfl)) (fun _ _ _ h => h) (Or.inl ⟨by rfl, ?_⟩) ?_ ?_
            rotate_left
            · intro w'
              go_simp
              with_reducible rfl
            rotate_left
            · simp only [Act.put, List.setIfInBounds_toArray, List.set_cons_zero, List.set_cons_succ, i64_w, i32_w]
              rfl
            refine pure_ (i := 5) (N := some 50) (v := ?_) (a' := ?_) #[true, true, true, true, true, true, false, false, false, false, false, false, false, false, false, false, false, false] rfl rfl (any_of HT_.out (by kernel_rfl)) (fun _ _ _ h => h) (Or.inl ⟨by rfl, ?_⟩) ?_ ?_
            rotate_left
            · intro w'
              go_simp
              with_reducible rfl
            rotate_left
            · simp only [Act.put, List.setIfInBounds_toArray, List.set_cons_zero, List.set_cons_succ, i64_w, i32_w]
              rfl
            refine pure_ (i := 13) (N := some 58) (v := ?_) (a' := ?_) #[true, true, true, true, true, true, false, false, false, false, false, false, false, true, false, false, false, false] rfl rfl (any_of HT_.out (by kernel_rfl)) (fun _ _ _ h => h) (Or.inl ⟨by rfl, ?_⟩) ?_ ?_
            rotate_left
            · intro w'
              go_simp
              with_reducible rfl
            rotate_left
            · simp only [Act.put, List.setIfInBounds_toArray, List.set_cons_zero, List.set_cons_succ, i64_w, i32_w]
              rfl
            have HO295 := Aside0.mk (Kd.R_mono HO295.out (fun _ hk => hk.2))
            have HO298 := Aside0.mk (Kd.R_mono HO298.out (fun _ hk => hk.2))
            have HO302 := Aside0.mk (Kd.R_mono HO302.out (fun _ hk => hk.2))
            have HO305 := Aside0.mk (Kd.R_mono HO305.out (fun _ hk => hk.2))
            refine inv_at [6, 7, 8, 9, 10, 11, 12, 14, 15, 16, 17] (fun a0_ b a w' => ∃ (v308 : Value) (v311 : Value), a = putSel a0_ b [(6, 51, .string a0_4), (7, 52, .int .i64 (a0_4.size : Int)), (8, 53, .int .u64 (IntKind.u64.wrap ((a0_4.size : Int)))), (9, 54, v308), (10, 55, v311), (11, 56, .string t313), (12, 57, .string ((t299 ++ t306) ++ t313)), (14, 59, .string a0_4), (15, 60, .string (((t299 ++ t306) ++ t313) ++ a0_4)), (16, 2, .string (((t299 ++ t306) ++ t313) ++ a0_4)), (17, 3, .int .i64 0)] ∧ (Kd.R (Kd.int .u64) 23 w' w.heap.size (fun k_ => some k_ ≠ (.slice Ao28 y300.length co28 : Value).ownBlock) (.slice Ao22 y293.length co22) y293) ∧ (Kd.R (Kd.int .i64) 3 w' w.heap.size (fun k_ => some k_ ≠ (.slice Ao29 t303.length co29 : Value).ownBlock) (.slice Ao23 t296.length co23) t296) ∧ (Kd.R (Kd.int .u64) 23 w' w.heap.size (fun k_ => some k_ ≠ (.slice Ao22 y293.length co22 : Value).ownBlock) (.slice Ao28 y300.length co28) y300) ∧ (Kd.R (Kd.int .i64) 3 w' w.heap.size (fun k_ => some k_ ≠ (.slice Ao23 t296.length co23 : Value).ownBlock) (.slice Ao29 t303.length co29) t303) ∧ (w'.heap[gb292]? = some (.cells #[.int .i64 a0_0, .int .u64 a0_1, .int .u64 a0_2, .int .u64 a0_3, .string a0_4, .bool true] 29 (0, 0))) ∧ (Below w.heap.size w w') ∧ (b 9 = true → Kd.R (Kd.int .u64) 23 w' w.heap.size (fun k_ => some k_ ≠ (.slice Ao22 y293.length co22 : Value).ownBlock ∧ some k_ ≠ (.slice Ao28 y300.length co28 : Value).ownBlock) v308 y307) ∧ (b 10 = true → Kd.R (Kd.int .i64) 3 w' w.heap.size (fun k_ => some k_ ≠ (.slice Ao23 t296.length co23 : Value).ownBlock ∧ some k_ ≠ (.slice Ao29 t303.length co29 : Value).ownBlock) v311 t310)) HT_.out HW_.out (by kernel_rfl) (by kernel_rfl) ?_ ?_ ?_
            · exact ⟨.bool false, .bool false, by simp only [putSel, Bool.false_eq_true, if_false], HO295.out, HO298.out, HO302.out, HO305.out, BK292.out, HB.out, fun h_ => absurd h_ (by decide), fun h_ => absurd h_ (by decide)⟩
            · skip
              clear BK292 HB HO295 HO298 HO302 HO305
              refine steps_cons ?_ ?_
              · rintro b a w' ⟨v308, v311, ha, Q_HO295, Q_HO298, Q_HO302, Q_HO305, Q_BK292, Q_HB, Q_HO309, Q_HO312⟩ hb_ hon hoff
                refine ⟨_, rfl, fun K hK => ?_⟩
                have e50 : a.tmps[50]? = some (.pointer (some ⟨gb292, 4, none⟩)) := by rw [ha]; exact (putSel_off rfl).trans rfl
                replace ha := Aside0.mk ha
                have HO295 := Aside0.mk Q_HO295
                have HO298 := Aside0.mk Q_HO298
                have HO302 := Aside0.mk Q_HO302
                have HO305 := Aside0.mk Q_HO305
                have BK292 := Aside0.mk Q_BK292
                have HB := Aside0.mk Q_HB
                have hc0_ : w'.cell? ⟨gb292, 0, none⟩ = some (.int .i64 a0_0) := (blk_cell BK292.out 0).trans rfl
                have hc1_ : w'.cell? ⟨gb292, 1, none⟩ = some (.int .u64 a0_1) := (blk_cell BK292.out 1).trans rfl
                have hc2_ : w'.cell? ⟨gb292, 2, none⟩ = some (.int .u64 a0_2) := (blk_cell BK292.out 2).trans rfl
                have hc3_ : w'.cell? ⟨gb292, 3, none⟩ = some (.int .u64 a0_3) := (blk_cell BK292.out 3).trans rfl
                have hc4_ : w'.cell? ⟨gb292, 4, none⟩ = some (.string a0_4) := (blk_cell BK292.out 4).trans rfl
                have hc5_ : w'.cell? ⟨gb292, 5, none⟩ = some (.bool true) := (blk_cell BK292.out 5).trans rfl
                refine value_ (w1 := w') (v := .string a0_4) (by rfl) rfl ?_ ?_
                · go_simp
                  (try simp only [i64_w])
                  try rfl
                refine hK.out _ _ ⟨v308, v311, (by rw [ha.out]; exact putSel_upk 0 hb_ rfl rfl rfl), Q_HO295, Q_HO298, Q_HO302, Q_HO305, Q_BK292, Q_HB, fun h0_ => absurd ((hoff 9 (by kernel_rfl)).symm.trans h0_) (by decide), Q_HO312⟩
              refine steps_cons ?_ ?_
              · rintro b a w' ⟨v308, v311, ha, Q_HO295, Q_HO298, Q_HO302, Q_HO305, Q_BK292, Q_HB, Q_HO309, Q_HO312⟩ hb_ hon hoff
                refine ⟨_, rfl, fun K hK => ?_⟩
                have e51 : a.tmps[51]? = some (.string a0_4) := by rw [ha]; exact putSel_on (e := (6, 51, .string a0_4)) 0 rfl rfl (hon 6 (by kernel_rfl)) rfl
                replace ha := Aside0.mk ha
                have HO295 := Aside0.mk Q_HO295
                have HO298 := Aside0.mk Q_HO298
                have HO302 := Aside0.mk Q_HO302
                have HO305 := Aside0.mk Q_HO305
                have BK292 := Aside0.mk Q_BK292
                have HB := Aside0.mk Q_HB
                refine value_ (w1 := w') (v := .int .i64 (a0_4.size : Int)) (by rfl) rfl ?_ ?_
                · go_simp
                  (try simp only [i64_w])
                  try rfl
                refine hK.out _ _ ⟨v308, v311, (by rw [ha.out]; exact putSel_upk 1 hb_ rfl rfl rfl), Q_HO295, Q_HO298, Q_HO302, Q_HO305, Q_BK292, Q_HB, fun h0_ => absurd ((hoff 9 (by kernel_rfl)).symm.trans h0_) (by decide), Q_HO312⟩
              refine steps_cons ?_ ?_
              · rintro b a w' ⟨v308, v311, ha, Q_HO295, Q_HO298, Q_HO302, Q_HO305, Q_BK292, Q_HB, Q_HO309, Q_HO312⟩ hb_ hon hoff
                refine ⟨_, rfl, fun K hK => ?_⟩
                have e52 : a.tmps[52]? = some (.int .i64 (a0_4.size : Int)) := by rw [ha]; exact putSel_on (e := (7, 52, .int .i64 (a0_4.size : Int))) 1 rfl rfl (hon 7 (by kernel_rfl)) rfl
                replace ha := Aside0.mk ha
                have HO295 := Aside0.mk Q_HO295
                have HO298 := Aside0.mk Q_HO298
                have HO302 := Aside0.mk Q_HO302
                have HO305 := Aside0.mk Q_HO305
                have BK292 := Aside0.mk Q_BK292
                have HB := Aside0.mk Q_HB
                refine value_ (w1 := w') (v := .int .u64 (IntKind.u64.wrap ((a0_4.size : Int)))) (by rfl) rfl ?_ ?_
                · go_simp
                  (try simp only [i64_w])
                  try rfl
                refine hK.out _ _ ⟨v308, v311, (by rw [ha.out]; exact putSel_upk 2 hb_ rfl rfl rfl), Q_HO295, Q_HO298, Q_HO302, Q_HO305, Q_BK292, Q_HB, fun h0_ => absurd ((hoff 9 (by kernel_rfl)).symm.trans h0_) (by decide), Q_HO312⟩
              refine steps_cons ?_ ?_
              · rintro b a w' ⟨v308, v311, ha, Q_HO295, Q_HO298, Q_HO302, Q_HO305, Q_BK292, Q_HB, Q_HO309, Q_HO312⟩ hb_ hon hoff
                refine ⟨_, rfl, fun K hK => ?_⟩
                have e46 : a.tmps[46]? = some (.int .u64 65535) := by rw [ha]; exact (putSel_off rfl).trans rfl
                have e47 : a.tmps[47]? = some (.int .u64 65535) := by rw [ha]; exact (putSel_off rfl).trans rfl
                have e48 : a.tmps[48]? = some (.int .u64 4294967295) := by rw [ha]; exact (putSel_off rfl).trans rfl
                have e49 : a.tmps[49]? = some (.int .u64 4294967295) := by rw [ha]; exact (putSel_off rfl).trans rfl
                have e53 : a.tmps[53]? = some (.int .u64 (IntKind.u64.wrap ((a0_4.size : Int)))) := by rw [ha]; exact putSel_on (e := (8, 53, .int .u64 (IntKind.u64.wrap ((a0_4.size : Int))))) 2 rfl rfl (hon 8 (by kernel_rfl)) rfl
                replace ha := Aside0.mk ha
                have HO295 := Aside0.mk Q_HO295
                have HO298 := Aside0.mk Q_HO298
                have HO302 := Aside0.mk Q_HO302
                have HO305 := Aside0.mk Q_HO305
                have BK292 := Aside0.mk Q_BK292
                have HB := Aside0.mk Q_HB
                refine Kd.R_lit_step (Kd.int .u64) _ 23 ?hg (N := 54) ?hd (xs := ([101010256, 0, 0, 65535, 65535, 4294967295, 4294967295, IntKind.u64.wrap ((a0_4.size : Int))] : List Int)) (inner := [.int .u64 101010256, .int .u64 0, .int .u64 0, .int .u64 65535, .int .u64 65535, .int .u64 4294967295, .int .u64 4294967295, .int .u64 (IntKind.u64.wrap ((a0_4.size : Int)))]) (ok := fun _ => True) (okp := fun _ => True) ?hr ?hp (fun _ hk => hk) trivial (Below.refl _ _) (Nat.le_refl _) (by simp) ?_; (case hd => rfl); (case hg => rfl); (case hr => first | (go_simp; done) | (go_simp; rfl)); (case hp => exact (Reps.one (show Kd.M (Kd.int .u64) _ _ _ 101010256 [.int .u64 101010256] from rfl) (Reps.one (show Kd.M (Kd.int .u64) _ _ _ 0 [.int .u64 0] from rfl) (Reps.one (show Kd.M (Kd.int .u64) _ _ _ 0 [.int .u64 0] from rfl) (Reps.one (show Kd.M (Kd.int .u64) _ _ _ 65535 [.int .u64 65535] from rfl) (Reps.one (show Kd.M (Kd.int .u64) _ _ _ 65535 [.int .u64 65535] from rfl) (Reps.one (show Kd.M (Kd.int .u64) _ _ _ 4294967295 [.int .u64 4294967295] from rfl) (Reps.one (show Kd.M (Kd.int .u64) _ _ _ 4294967295 [.int .u64 4294967295] from rfl) (Reps.one (show Kd.M (Kd.int .u64) _ _ _ (IntKind.u64.wrap ((a0_4.size : Int))) [.int .u64 (IntKind.u64.wrap ((a0_4.size : Int)))] from rfl) (Reps.none _ _))))))))))
                intro v308 w32 ho33 hb hg_ hnew_
                clear hg_ hnew_
                (first | rw [← Ny307.out] at ho33 | (simp only [Int.reduceToNat] at ho33; rw [← Ny307.out] at ho33))
                have n0_ := Aside0.mk (Kd.R_elder' (by (with_reducible repeat (first | apply Kd.R_alloc | apply Kd.R_drewN | apply Kd.R_drew)); exact HO295.out) (Kd.R_base ho33) hb)
                have n1_ := Aside0.mk (Kd.R_below (by (with_reducible repeat (first | apply Kd.R_alloc | apply Kd.R_drewN | apply Kd.R_drew)); exact HO298.out) hb)
                have n2_ := Aside0.mk (Kd.R_elder' (by (with_reducible repeat (first | apply Kd.R_alloc | apply Kd.R_drewN | apply Kd.R_drew)); exact HO302.out) (Kd.R_base ho33) hb)
                have n3_ := Aside0.mk (Kd.R_below (by (with_reducible repeat (first | apply Kd.R_alloc | apply Kd.R_drewN | apply Kd.R_drew)); exact HO305.out) hb)
                have n4_ := Aside0.mk (Kd.R_lower (Kd.R_new' (Kd.R_new' ho33 (Kd.R_lt (by (with_reducible repeat (first | apply Kd.R_alloc | apply Kd.R_drewN | apply Kd.R_drew)); exact HO295.out))) (Kd.R_lt (by (with_reducible repeat (first | apply Kd.R_alloc | apply Kd.R_drewN | apply Kd.R_drew)); exact HO302.out))) (below_size (by repeat (first | (with_reducible first | exact HB.out | apply below_alloc | apply pw_below_drewN | apply below_drew1 | refine below_set ?_ GE292.out) | exact HB.out))))
                have n5_ := Aside0.mk (blk_below (g := gb292) (o := .cells #[.int .i64 a0_0, .int .u64 a0_1, .int .u64 a0_2, .int .u64 a0_3, .string a0_4, .bool true] 29 (0, 0)) (by (with_reducible repeat (first | refine blk_drewN ?_ _ | refine blk_drew ?_ | refine blk_alloc ?_ _)); exact BK292.out) hb)
                have n6_ := Aside0.mk (below_step (by repeat (first | (with_reducible first | exact HB.out | apply below_alloc | apply pw_below_drewN | apply below_drew1 | refine below_set ?_ GE292.out) | exact HB.out)) hb)
                have z_HO312 := fun (h0_ : b 10 = true) => (show Kd.R (Kd.int .i64) 3 w32 w.heap.size (fun k_ => some k_ ≠ (.slice Ao23 t296.length co23 : Value).ownBlock ∧ some k_ ≠ (.slice Ao29 t303.length co29 : Value).ownBlock) v311 t310 from by first | exact (Kd.R_below (by (with_reducible repeat (first | apply Kd.R_alloc | apply Kd.R_drewN | apply Kd.R_drew)); exact (Q_HO312 h0_)) hb) | exact Kd.R_mono (Kd.R_below (by (with_reducible repeat (first | apply Kd.R_alloc | apply Kd.R_drewN | apply Kd.R_drew)); exact (Q_HO312 h0_)) hb) (fun _ h_ => by first | trivial | exact h_ | exact h_.1))
                clear HO295
                clear HO298
                clear HO302
                clear HO305
                clear BK292
                clear HB
                have HO295 := n0_
                have HO298 := n1_
                have HO302 := n2_
                have HO305 := n3_
                have HO309 := n4_
                have BK292 := n5_
                have HB := n6_
                clear n0_ n1_ n2_ n3_ n4_ n5_ n6_
                clear hb ho33
                refine hK.out _ _ ⟨v308, v311, (by rw [ha.out]; exact putSel_upk 3 hb_ rfl rfl rfl), (by (with_reducible repeat (first | apply Kd.R_alloc | apply Kd.R_drewN | apply Kd.R_drew)); exact Kd.R_mono HO295.out (fun _ hk => by first | exact hk | exact hk.2 | exact hk.1 | exact hk.1.2 | exact hk.1.1 | exact ⟨hk.1.2, hk.2⟩)), (by (with_reducible repeat (first | apply Kd.R_alloc | apply Kd.R_drewN | apply Kd.R_drew)); exact Kd.R_mono HO298.out (fun _ hk => by first | exact hk | exact hk.2 | exact hk.1 | exact hk.1.2 | exact hk.1.1 | exact ⟨hk.1.2, hk.2⟩)), (by (with_reducible repeat (first | apply Kd.R_alloc | apply Kd.R_drewN | apply Kd.R_drew)); exact Kd.R_mono HO302.out (fun _ hk => by first | exact hk | exact hk.2 | exact hk.1 | exact hk.1.2 | exact hk.1.1 | exact ⟨hk.1.2, hk.2⟩)), (by (with_reducible repeat (first | apply Kd.R_alloc | apply Kd.R_drewN | apply Kd.R_drew)); exact Kd.R_mono HO305.out (fun _ hk => by first | exact hk | exact hk.2 | exact hk.1 | exact hk.1.2 | exact hk.1.1 | exact ⟨hk.1.2, hk.2⟩)), (by (with_reducible repeat (first | refine blk_drewN ?_ _ | refine blk_drew ?_ | refine blk_alloc ?_ _)); exact BK292.out), (by repeat (first | (with_reducible first | exact HB.out | apply below_alloc | apply pw_below_drewN | apply below_drew1 | refine below_set ?_ GE292.out) | exact HB.out)), fun _ => (by (with_reducible repeat (first | apply Kd.R_alloc | apply Kd.R_drewN | apply Kd.R_drew)); exact Kd.R_mono HO309.out (fun _ hk => by first | exact hk | exact hk.2 | exact hk.1 | exact hk.1.2 | exact hk.1.1 | exact ⟨hk.1.2, hk.2⟩)), z_HO312⟩
              refine steps_cons ?_ ?_
              · rintro b a w' ⟨v308, v311, ha, Q_HO295, Q_HO298, Q_HO302, Q_HO305, Q_BK292, Q_HB, Q_HO309, Q_HO312⟩ hb_ hon hoff
                refine ⟨_, rfl, fun K hK => ?_⟩
                replace ha := Aside0.mk ha
                have HO295 := Aside0.mk Q_HO295
                have HO298 := Aside0.mk Q_HO298
                have HO302 := Aside0.mk Q_HO302
                have HO305 := Aside0.mk Q_HO305
                have BK292 := Aside0.mk Q_BK292
                have HB := Aside0.mk Q_HB
                refine goes_ Try.func22 (by kernel_rfl) rfl #[] (by rfl) rfl rfl (by first | (simp only [List.map_toArray, List.map_cons, List.map_nil, Act.eval, Array.getD_eq_getD_getElem?, Option.getD_some]; done) | (simp only [List.map_toArray, List.map_cons, List.map_nil, Act.eval, Array.getD_eq_getD_getElem?, Option.getD_some]; rfl)) ?_
                with_reducible refine (portmanteauref18_ends.calls  t310 _ A11.out).mono ?_
                rintro e w32 ⟨v311, rfl, ho0, hb⟩
                refine ⟨_, rfl, ?_⟩
                have n0_ := Aside0.mk (Kd.R_below (by (with_reducible repeat (first | apply Kd.R_alloc | apply Kd.R_drewN | apply Kd.R_drew)); exact HO295.out) hb)
                have n1_ := Aside0.mk (Kd.R_elder' (by (with_reducible repeat (first | apply Kd.R_alloc | apply Kd.R_drewN | apply Kd.R_drew)); exact HO298.out) (Kd.R_base ho0) hb)
                have n2_ := Aside0.mk (Kd.R_below (by (with_reducible repeat (first | apply Kd.R_alloc | apply Kd.R_drewN | apply Kd.R_drew)); exact HO302.out) hb)
                have n3_ := Aside0.mk (Kd.R_elder' (by (with_reducible repeat (first | apply Kd.R_alloc | apply Kd.R_drewN | apply Kd.R_drew)); exact HO305.out) (Kd.R_base ho0) hb)
                have n4_ := Aside0.mk (Kd.R_lower (Kd.R_new' (Kd.R_new' ho0 (Kd.R_lt (by (with_reducible repeat (first | apply Kd.R_alloc | apply Kd.R_drewN | apply Kd.R_drew)); exact HO298.out))) (Kd.R_lt (by (with_reducible repeat (first | apply Kd.R_alloc | apply Kd.R_drewN | apply Kd.R_drew)); exact HO305.out))) (below_size (by repeat (first | (with_reducible first | exact HB.out | apply below_alloc | apply pw_below_drewN | apply below_drew1 | refine below_set ?_ GE292.out) | exact HB.out))))
                have n5_ := Aside0.mk (blk_below (g := gb292) (o := .cells #[.int .i64 a0_0, .int .u64 a0_1, .int .u64 a0_2, .int .u64 a0_3, .string a0_4, .bool true] 29 (0, 0)) (by (with_reducible repeat (first | refine blk_drewN ?_ _ | refine blk_drew ?_ | refine blk_alloc ?_ _)); exact BK292.out) hb)
                have n6_ := Aside0.mk (below_step (by repeat (first | (with_reducible first | exact HB.out | apply below_alloc | apply pw_below_drewN | apply below_drew1 | refine below_set ?_ GE292.out) | exact HB.out)) hb)
                have z_HO309 := fun (h0_ : b 9 = true) => (show Kd.R (Kd.int .u64) 23 w32 w.heap.size (fun k_ => some k_ ≠ (.slice Ao22 y293.length co22 : Value).ownBlock ∧ some k_ ≠ (.slice Ao28 y300.length co28 : Value).ownBlock) v308 y307 from by first | exact (Kd.R_below (by (with_reducible repeat (first | apply Kd.R_alloc | apply Kd.R_drewN | apply Kd.R_drew)); exact (Q_HO309 h0_)) hb) | exact Kd.R_mono (Kd.R_below (by (with_reducible repeat (first | apply Kd.R_alloc | apply Kd.R_drewN | apply Kd.R_drew)); exact (Q_HO309 h0_)) hb) (fun _ h_ => by first | trivial | exact h_ | exact h_.1))
                clear HO295
                clear HO298
                clear HO302
                clear HO305
                clear BK292
                clear HB
                have HO295 := n0_
                have HO298 := n1_
                have HO302 := n2_
                have HO305 := n3_
                have HO312 := n4_
                have BK292 := n5_
                have HB := n6_
                clear n0_ n1_ n2_ n3_ n4_ n5_ n6_
                (try clear hb)
                (try clear hb2)
                (try clear hk)
                (try clear hi)
                (try clear ho0)
                refine hK.out _ _ ⟨v308, v311, (by rw [ha.out]; exact putSel_upk 4 hb_ rfl rfl rfl), (by (with_reducible repeat (first | apply Kd.R_alloc | apply Kd.R_drewN | apply Kd.R_drew)); exact Kd.R_mono HO295.out (fun _ hk => by first | exact hk | exact hk.2 | exact hk.1 | exact hk.1.2 | exact hk.1.1 | exact ⟨hk.1.2, hk.2⟩)), (by (with_reducible repeat (first | apply Kd.R_alloc | apply Kd.R_drewN | apply Kd.R_drew)); exact Kd.R_mono HO298.out (fun _ hk => by first | exact hk | exact hk.2 | exact hk.1 | exact hk.1.2 | exact hk.1.1 | exact ⟨hk.1.2, hk.2⟩)), (by (with_reducible repeat (first | apply Kd.R_alloc | apply Kd.R_drewN | apply Kd.R_drew)); exact Kd.R_mono HO302.out (fun _ hk => by first | exact hk | exact hk.2 | exact hk.1 | exact hk.1.2 | exact hk.1.1 | exact ⟨hk.1.2, hk.2⟩)), (by (with_reducible repeat (first | apply Kd.R_alloc | apply Kd.R_drewN | apply Kd.R_drew)); exact Kd.R_mono HO305.out (fun _ hk => by first | exact hk | exact hk.2 | exact hk.1 | exact hk.1.2 | exact hk.1.1 | exact ⟨hk.1.2, hk.2⟩)), (by (with_reducible repeat (first | refine blk_drewN ?_ _ | refine blk_drew ?_ | refine blk_alloc ?_ _)); exact BK292.out), (by repeat (first | (with_reducible first | exact HB.out | apply below_alloc | apply pw_below_drewN | apply below_drew1 | refine below_set ?_ GE292.out) | exact HB.out)), z_HO309, fun _ => (by (with_reducible repeat (first | apply Kd.R_alloc | apply Kd.R_drewN | apply Kd.R_drew)); exact Kd.R_mono HO312.out (fun _ hk => by first | exact hk | exact hk.2 | exact hk.1 | exact hk.1.2 | exact hk.1.1 | exact ⟨hk.1.2, hk.2⟩))⟩
              refine steps_cons ?_ ?_
              · rintro b a w' ⟨v308, v311, ha, Q_HO295, Q_HO298, Q_HO302, Q_HO305, Q_BK292, Q_HB, Q_HO309, Q_HO312⟩ hb_ hon hoff
                refine ⟨_, rfl, fun K hK => ?_⟩
                have e54 : a.tmps[54]? = some (v308) := by rw [ha]; exact putSel_on (e := (9, 54, v308)) 3 rfl rfl (hon 9 (by kernel_rfl)) rfl
                have e55 : a.tmps[55]? = some (v311) := by rw [ha]; exact putSel_on (e := (10, 55, v311)) 4 rfl rfl (hon 10 (by kernel_rfl)) rfl
                replace ha := Aside0.mk ha
                have HO295 := Aside0.mk Q_HO295
                have HO298 := Aside0.mk Q_HO298
                have HO302 := Aside0.mk Q_HO302
                have HO305 := Aside0.mk Q_HO305
                have BK292 := Aside0.mk Q_BK292
                have HB := Aside0.mk Q_HB
                have HO309 := Aside0.mk (Q_HO309 (hon 9 (by kernel_rfl)))
                have HO312 := Aside0.mk (Q_HO312 (hon 10 (by kernel_rfl)))
                obtain ⟨Ao36, co36, eo36⟩ := Kd.R_slice HO309.out
                (first | subst eo36 | (injection eo36 with f1_ f2_ f3_; have f4_ := f1_.symm; have f5_ := f3_.symm; clear f1_ f2_ f3_; subst f4_; subst f5_))
                obtain ⟨Ao37, co37, eo37⟩ := Kd.R_slice HO312.out
                (first | subst eo37 | (injection eo37 with f1_ f2_ f3_; have f4_ := f1_.symm; have f5_ := f3_.symm; clear f1_ f2_ f3_; subst f4_; subst f5_))
                refine goes_ Try.func37 (by kernel_rfl) rfl #[.slice Ao36 y307.length co36, .slice Ao37 t310.length co37] (by rfl) rfl rfl (by first | (simp only [List.map_toArray, List.map_cons, List.map_nil, Act.eval, Array.getD_eq_getD_getElem?, Option.getD_some, e54, e55]; done) | (simp only [List.map_toArray, List.map_cons, List.map_nil, Act.eval, Array.getD_eq_getD_getElem?, Option.getD_some, e54, e55]; rfl)) ?_
                with_reducible refine (portmanteauref17_Print.calls k _ _ y307 _ _ t310 t313 _ ?side1 ?side2 ?side3 ?side4 A12.out).mono ?_
                (case side1 => repeat (first | exact (Kd.R_reads' HO309.out).2.2 | (with_reducible refine Kd.C_alloc ?_ _) | (with_reducible refine Kd.C_drewN ?_ _) | (with_reducible refine Kd.C_drew ?_)))
                (case side2 => exact (Kd.R_reads' HO309.out).2.1)
                (case side3 => repeat (first | exact (Kd.R_reads' HO312.out).2.2 | (with_reducible refine Kd.C_alloc ?_ _) | (with_reducible refine Kd.C_drewN ?_ _) | (with_reducible refine Kd.C_drew ?_)))
                (case side4 => exact (Kd.R_reads' HO312.out).2.1)
                rintro e w38 ⟨rfl, hb⟩
                refine ⟨_, rfl, ?_⟩
                have n0_ := Aside0.mk (Kd.R_below (by (with_reducible repeat (first | apply Kd.R_alloc | apply Kd.R_drewN | apply Kd.R_drew)); exact HO295.out) hb)
                have n1_ := Aside0.mk (Kd.R_below (by (with_reducible repeat (first | apply Kd.R_alloc | apply Kd.R_drewN | apply Kd.R_drew)); exact HO298.out) hb)
                have n2_ := Aside0.mk (Kd.R_below (by (with_reducible repeat (first | apply Kd.R_alloc | apply Kd.R_drewN | apply Kd.R_drew)); exact HO302.out) hb)
                have n3_ := Aside0.mk (Kd.R_below (by (with_reducible repeat (first | apply Kd.R_alloc | apply Kd.R_drewN | apply Kd.R_drew)); exact HO305.out) hb)
                have n4_ := Aside0.mk (Kd.R_below (by (with_reducible repeat (first | apply Kd.R_alloc | apply Kd.R_drewN | apply Kd.R_drew)); exact HO309.out) hb)
                have n5_ := Aside0.mk (Kd.R_below (by (with_reducible repeat (first | apply Kd.R_alloc | apply Kd.R_drewN | apply Kd.R_drew)); exact HO312.out) hb)
                have n6_ := Aside0.mk (blk_below (g := gb292) (o := .cells #[.int .i64 a0_0, .int .u64 a0_1, .int .u64 a0_2, .int .u64 a0_3, .string a0_4, .bool true] 29 (0, 0)) (by (with_reducible repeat (first | refine blk_drewN ?_ _ | refine blk_drew ?_ | refine blk_alloc ?_ _)); exact BK292.out) hb)
                have n7_ := Aside0.mk (below_step (by repeat (first | (with_reducible first | exact HB.out | apply below_alloc | apply pw_below_drewN | apply below_drew1 | refine below_set ?_ GE292.out) | exact HB.out)) hb)
                clear HO295
                clear HO298
                clear HO302
                clear HO305
                clear HO309
                clear HO312
                clear BK292
                clear HB
                have HO295 := n0_
                have HO298 := n1_
                have HO302 := n2_
                have HO305 := n3_
                have HO309 := n4_
                have HO312 := n5_
                have BK292 := n6_
                have HB := n7_
                clear n0_ n1_ n2_ n3_ n4_ n5_ n6_ n7_
                (try clear hb)
                (try clear hb2)
                (try clear hk)
                (try clear hi)
                refine hK.out _ _ ⟨.slice Ao36 y307.length co36, .slice Ao37 t310.length co37, (by rw [ha.out]; exact putSel_upk 5 hb_ rfl rfl rfl), (by (with_reducible repeat (first | apply Kd.R_alloc | apply Kd.R_drewN | apply Kd.R_drew)); exact HO295.out), (by (with_reducible repeat (first | apply Kd.R_alloc | apply Kd.R_drewN | apply Kd.R_drew)); exact HO298.out), (by (with_reducible repeat (first | apply Kd.R_alloc | apply Kd.R_drewN | apply Kd.R_drew)); exact HO302.out), (by (with_reducible repeat (first | apply Kd.R_alloc | apply Kd.R_drewN | apply Kd.R_drew)); exact HO305.out), (by (with_reducible repeat (first | refine blk_drewN ?_ _ | refine blk_drew ?_ | refine blk_alloc ?_ _)); exact BK292.out), (by repeat (first | (with_reducible first | exact HB.out | apply below_alloc | apply pw_below_drewN | apply below_drew1 | refine below_set ?_ GE292.out) | exact HB.out)), fun _ => (by (with_reducible repeat (first | apply Kd.R_alloc | apply Kd.R_drewN | apply Kd.R_drew)); exact HO309.out), fun _ => (by (with_reducible repeat (first | apply Kd.R_alloc | apply Kd.R_drewN | apply Kd.R_drew)); exact HO312.out)⟩
              refine steps_cons ?_ ?_
              · rintro b a w' ⟨v308, v311, ha, Q_HO295, Q_HO298, Q_HO302, Q_HO305, Q_BK292, Q_HB, Q_HO309, Q_HO312⟩ hb_ hon hoff
                refine ⟨_, rfl, fun K hK => ?_⟩
                have e45 : a.tmps[45]? = some (.string (t299 ++ t306)) := by rw [ha]; exact (putSel_off rfl).trans rfl
                have e56 : a.tmps[56]? = some (.string t313) := by rw [ha]; exact putSel_on (e := (11, 56, .string t313)) 5 rfl rfl (hon 11 (by kernel_rfl)) rfl
                replace ha := Aside0.mk ha
                have HO295 := Aside0.mk Q_HO295
                have HO298 := Aside0.mk Q_HO298
                have HO302 := Aside0.mk Q_HO302
                have HO305 := Aside0.mk Q_HO305
                have BK292 := Aside0.mk Q_BK292
                have HB := Aside0.mk Q_HB
                have HO309 := Aside0.mk (Q_HO309 (hon 9 (by kernel_rfl)))
                have HO312 := Aside0.mk (Q_HO312 (hon 10 (by kernel_rfl)))
                refine value_ (w1 := w') (v := .string ((t299 ++ t306) ++ t313)) (by rfl) rfl ?_ ?_
                · go_simp
                  (try simp only [i64_w])
                  try rfl
                refine hK.out _ _ ⟨v308, v311, (by rw [ha.out]; exact putSel_upk 6 hb_ rfl rfl rfl), Q_HO295, Q_HO298, Q_HO302, Q_HO305, Q_BK292, Q_HB, Q_HO309, Q_HO312⟩
              refine steps_cons ?_ ?_
              · rintro b a w' ⟨v308, v311, ha, Q_HO295, Q_HO298, Q_HO302, Q_HO305, Q_BK292, Q_HB, Q_HO309, Q_HO312⟩ hb_ hon hoff
                refine ⟨_, rfl, fun K hK => ?_⟩
                have e58 : a.tmps[58]? = some (.pointer (some ⟨gb292, 4, none⟩)) := by rw [ha]; exact (putSel_off rfl).trans rfl
                replace ha := Aside0.mk ha
                have HO295 := Aside0.mk Q_HO295
                have HO298 := Aside0.mk Q_HO298
                have HO302 := Aside0.mk Q_HO302
                have HO305 := Aside0.mk Q_HO305
                have BK292 := Aside0.mk Q_BK292
                have HB := Aside0.mk Q_HB
                have hc0_ : w'.cell? ⟨gb292, 0, none⟩ = some (.int .i64 a0_0) := (blk_cell BK292.out 0).trans rfl
                have hc1_ : w'.cell? ⟨gb292, 1, none⟩ = some (.int .u64 a0_1) := (blk_cell BK292.out 1).trans rfl
                have hc2_ : w'.cell? ⟨gb292, 2, none⟩ = some (.int .u64 a0_2) := (blk_cell BK292.out 2).trans rfl
                have hc3_ : w'.cell? ⟨gb292, 3, none⟩ = some (.int .u64 a0_3) := (blk_cell BK292.out 3).trans rfl
                have hc4_ : w'.cell? ⟨gb292, 4, none⟩ = some (.string a0_4) := (blk_cell BK292.out 4).trans rfl
                have hc5_ : w'.cell? ⟨gb292, 5, none⟩ = some (.bool true) := (blk_cell BK292.out 5).trans rfl
                refine value_ (w1 := w') (v := .string a0_4) (by rfl) rfl ?_ ?_
                · go_simp
                  (try simp only [i64_w])
                  try rfl
                refine hK.out _ _ ⟨v308, v311, (by rw [ha.out]; exact putSel_upk 7 hb_ rfl rfl rfl), Q_HO295, Q_HO298, Q_HO302, Q_HO305, Q_BK292, Q_HB, Q_HO309, Q_HO312⟩
              refine steps_cons ?_ ?_
              · rintro b a w' ⟨v308, v311, ha, Q_HO295, Q_HO298, Q_HO302, Q_HO305, Q_BK292, Q_HB, Q_HO309, Q_HO312⟩ hb_ hon hoff
                refine ⟨_, rfl, fun K hK => ?_⟩
                have e57 : a.tmps[57]? = some (.string ((t299 ++ t306) ++ t313)) := by rw [ha]; exact putSel_on (e := (12, 57, .string ((t299 ++ t306) ++ t313))) 6 rfl rfl (hon 12 (by kernel_rfl)) rfl
                have e59 : a.tmps[59]? = some (.string a0_4) := by rw [ha]; exact putSel_on (e := (14, 59, .string a0_4)) 7 rfl rfl (hon 14 (by kernel_rfl)) rfl
                replace ha := Aside0.mk ha
                have HO295 := Aside0.mk Q_HO295
                have HO298 := Aside0.mk Q_HO298
                have HO302 := Aside0.mk Q_HO302
                have HO305 := Aside0.mk Q_HO305
                have BK292 := Aside0.mk Q_BK292
                have HB := Aside0.mk Q_HB
                have HO309 := Aside0.mk (Q_HO309 (hon 9 (by kernel_rfl)))
                have HO312 := Aside0.mk (Q_HO312 (hon 10 (by kernel_rfl)))
                refine value_ (w1 := w') (v := .string (((t299 ++ t306) ++ t313) ++ a0_4)) (by rfl) rfl ?_ ?_
                · go_simp
                  (try simp only [i64_w])
                  try rfl
                refine hK.out _ _ ⟨v308, v311, (by rw [ha.out]; exact putSel_upk 8 hb_ rfl rfl rfl), Q_HO295, Q_HO298, Q_HO302, Q_HO305, Q_BK292, Q_HB, Q_HO309, Q_HO312⟩
              refine steps_cons ?_ ?_
              · rintro b a w' ⟨v308, v311, ha, Q_HO295, Q_HO298, Q_HO302, Q_HO305, Q_BK292, Q_HB, Q_HO309, Q_HO312⟩ hb_ hon hoff
                refine ⟨_, rfl, fun K hK => ?_⟩
                have e60 : a.tmps[60]? = some (.string (((t299 ++ t306) ++ t313) ++ a0_4)) := by rw [ha]; exact putSel_on (e := (15, 60, .string (((t299 ++ t306) ++ t313) ++ a0_4))) 8 rfl rfl (hon 15 (by kernel_rfl)) rfl
                replace ha := Aside0.mk ha
                have HO295 := Aside0.mk Q_HO295
                have HO298 := Aside0.mk Q_HO298
                have HO302 := Aside0.mk Q_HO302
                have HO305 := Aside0.mk Q_HO305
                have BK292 := Aside0.mk Q_BK292
                have HB := Aside0.mk Q_HB
                have HO309 := Aside0.mk (Q_HO309 (hon 9 (by kernel_rfl)))
                have HO312 := Aside0.mk (Q_HO312 (hon 10 (by kernel_rfl)))
                refine value_ (w1 := w') (v := .string (((t299 ++ t306) ++ t313) ++ a0_4)) (by rfl) rfl ?_ ?_
                · go_simp
                  (try simp only [i64_w])
                  try rfl
                refine hK.out _ _ ⟨v308, v311, (by rw [ha.out]; exact putSel_upk 9 hb_ rfl rfl rfl), Q_HO295, Q_HO298, Q_HO302, Q_HO305, Q_BK292, Q_HB, Q_HO309, Q_HO312⟩
              refine steps_cons ?_ ?_
              · rintro b a w' ⟨v308, v311, ha, Q_HO295, Q_HO298, Q_HO302, Q_HO305, Q_BK292, Q_HB, Q_HO309, Q_HO312⟩ hb_ hon hoff
                refine ⟨_, rfl, fun K hK => ?_⟩
                replace ha := Aside0.mk ha
                have HO295 := Aside0.mk Q_HO295
                have HO298 := Aside0.mk Q_HO298
                have HO302 := Aside0.mk Q_HO302
                have HO305 := Aside0.mk Q_HO305
                have BK292 := Aside0.mk Q_BK292
                have HB := Aside0.mk Q_HB
                have HO309 := Aside0.mk (Q_HO309 (hon 9 (by kernel_rfl)))
                have HO312 := Aside0.mk (Q_HO312 (hon 10 (by kernel_rfl)))
                refine value_ (w1 := w') (v := .int .i64 0) (by rfl) rfl ?_ ?_
                · go_simp
                  (try simp only [i64_w])
                  try rfl
                refine hK.out _ _ ⟨v308, v311, (by rw [ha.out]; exact putSel_upk 10 hb_ rfl rfl rfl), Q_HO295, Q_HO298, Q_HO302, Q_HO305, Q_BK292, Q_HB, Q_HO309, Q_HO312⟩
              exact steps_nil
            rintro b a w38 hall ⟨v308, v311, ha, Q_HO295, Q_HO298, Q_HO302, Q_HO305, Q_BK292, Q_HB, Q_HO309, Q_HO312⟩
            clear BK292 HB HO295 HO298 HO302 HO305
            have hb6_ := hall 6 (by kernel_rfl)
            have hb7_ := hall 7 (by kernel_rfl)
            have hb8_ := hall 8 (by kernel_rfl)
            have hb9_ := hall 9 (by kernel_rfl)
            have hb10_ := hall 10 (by kernel_rfl)
            have hb11_ := hall 11 (by kernel_rfl)
            have hb12_ := hall 12 (by kernel_rfl)
            have hb14_ := hall 14 (by kernel_rfl)
            have hb15_ := hall 15 (by kernel_rfl)
            have hb16_ := hall 16 (by kernel_rfl)
            have hb17_ := hall 17 (by kernel_rfl)
            subst ha
            simp only [putSel, hb6_, hb7_, hb8_, hb9_, hb10_, hb11_, hb12_, hb14_, hb15_, hb16_, hb17_, if_true, Act.put, List.setIfInBounds_toArray, List.set_cons_zero, List.set_cons_succ]
            have HO295 := Aside0.mk Q_HO295
            clear Q_HO295
            have HO298 := Aside0.mk Q_HO298
            clear Q_HO298
            have HO302 := Aside0.mk Q_HO302
            clear Q_HO302
            have HO305 := Aside0.mk Q_HO305
            clear Q_HO305
            have BK292 := Aside0.mk Q_BK292
            clear Q_BK292
            have HB := Aside0.mk Q_HB
            clear Q_HB
            have HO309 := Aside0.mk (Q_HO309 hb9_)
            clear Q_HO309
            have HO312 := Aside0.mk (Q_HO312 hb10_)
            clear Q_HO312
            clear hall hb6_ hb7_ hb8_ hb9_ hb10_ hb11_ hb12_ hb14_ hb15_ hb16_ hb17_
            try go_wp2
            go_ret2
            exact ⟨by first | rfl | (simp [errW_none, errW_some] <;> rfl) | (simp [*, errW_none, errW_some] <;> rfl), by repeat (first | (with_reducible first | exact HB.out | apply below_alloc | apply pw_below_drewN | apply below_drew1 | refine below_set ?_ GE292.out) | exact HB.out)⟩
          · rw [if_neg c14] at H
            exact absurd H (by simp)
        · rw [if_neg c13] at H
          exact absurd H (by simp)
      · rw [if_neg c10] at H
        exact absurd H (by simp)
    · replace c5 := Bool.eq_false_iff.mpr c5
      subst c5
      have H1 : (if a0_1 ≥ 65535 then (portmanteauref18_Print.j0 k (⟨#[]⟩ : ByteArray) a0_1 a0_2 a0_3 true a0_0 a0_1 a0_2 a0_3 a0_4 false) else (if a0_2 ≥ 4294967295 then (portmanteauref18_Print.j0 k (⟨#[]⟩ : ByteArray) a0_1 a0_2 a0_3 true a0_0 a0_1 a0_2 a0_3 a0_4 false) else (portmanteauref18_Print.j0 k (⟨#[]⟩ : ByteArray) a0_1 a0_2 a0_3 (decide (a0_3 ≥ 4294967295)) a0_0 a0_1 a0_2 a0_3 a0_4 false))) = some (r1, r2) := by rw [if_neg (show ¬ (false = true) by decide)] at H; exact H
      clear H
      have H := H1
      clear H1
      have HC39 := Aside0.mk H
      clear H
      go_enter Try.func14, Try.ntmps14
      try go_wp2_with (first | ((with_reducible refine gate_dst (N := 1) rfl ?_); refine box_event ?hg (N := 1) ?hd (cs := #[.int .i64 a0_0, .int .u64 a0_1, .int .u64 a0_2, .int .u64 a0_3, .string a0_4, .bool false]) (t := 29) ?hr ?_; (case hd => rfl); (case hg => rfl); (case hr => first | (go_simp; done) | (go_simp; rfl)); intro gb292 hg w40 hbox hb; have n0_ := Aside0.mk (below_step (by repeat (first | (with_reducible first | exact HB.out | apply below_alloc | apply pw_below_drewN | apply below_drew1) | exact HB.out)) hb); have n1_ := Aside0.mk (hbox); have n2_ := Aside0.mk ((by rw [hg]; exact (below_size (by repeat (first | (with_reducible first | exact HB.out | apply below_alloc | apply pw_below_drewN | apply below_drew1) | exact HB.out))) : w.heap.size ≤ gb292)); have n3_ := Aside0.mk ((by rw [hg]; exact (below_size (by repeat (first | (with_reducible first | exact HB.out | apply below_alloc | apply pw_below_drewN | apply below_drew1) | exact HB.out))) : w.heap.size ≤ gb292)); clear HB; have HB := n0_; have BK292 := n1_; have GW292 := n2_; have GE292 := n3_; clear n0_ n1_ n2_ n3_; clear hb hbox hg; have hcz41_0 : w40.cell? ⟨gb292, 0, none⟩ = some (.int .i64 a0_0) := (blk_cell BK292.out 0).trans rfl; have hcz41_1 : w40.cell? ⟨gb292, 1, none⟩ = some (.int .u64 a0_1) := (blk_cell BK292.out 1).trans rfl; have hcz41_2 : w40.cell? ⟨gb292, 2, none⟩ = some (.int .u64 a0_2) := (blk_cell BK292.out 2).trans rfl; have hcz41_3 : w40.cell? ⟨gb292, 3, none⟩ = some (.int .u64 a0_3) := (blk_cell BK292.out 3).trans rfl; have hcz41_4 : w40.cell? ⟨gb292, 4, none⟩ = some (.string a0_4) := (blk_cell BK292.out 4).trans rfl; have hcz41_5 : w40.cell? ⟨gb292, 5, none⟩ = some (.bool false) := (blk_cell BK292.out 5).trans rfl; have hfz41_0 := blk_frozen BK292.out 0; have hfz41_1 := blk_frozen BK292.out 1; have hfz41_2 := blk_frozen BK292.out 2; have hfz41_3 := blk_frozen BK292.out 3; have hfz41_4 := blk_frozen BK292.out 4; have hfz41_5 := blk_frozen BK292.out 5))
      have n0_ := Aside0.mk (blk_drew BK292.out)
      have n1_ := Aside0.mk (below_drew1 HB.out)
      clear BK292
      clear HB
      have BK292 := n0_
      have HB := n1_
      clear n0_ n1_
      refine start_ (n := 9) (S := fun w' => w'.cell? ⟨gb292, 0, none⟩ = some (.int .i64 a0_0) ∧ w'.cell? ⟨gb292, 1, none⟩ = some (.int .u64 a0_1) ∧ w'.cell? ⟨gb292, 2, none⟩ = some (.int .u64 a0_2) ∧ w'.cell? ⟨gb292, 3, none⟩ = some (.int .u64 a0_3) ∧ w'.cell? ⟨gb292, 4, none⟩ = some (.string a0_4) ∧ w'.cell? ⟨gb292, 5, none⟩ = some (.bool false)) (ds := []) #[false, false, false, false, false, false, false, false, false] (by kernel_rfl) rfl rfl ⟨(blk_cell BK292.out 0).trans rfl, (blk_cell BK292.out 1).trans rfl, (blk_cell BK292.out 2).trans rfl, (blk_cell BK292.out 3).trans rfl, (blk_cell BK292.out 4).trans rfl, (blk_cell BK292.out 5).trans rfl⟩ (fun hHeld => ?_); refine with_tabW portmanteauref18_Print.tab4 portmanteauref18_Print.bits4 (fun HT_ HW_ => ?_)
      generalize w40.drew = w42 at BK292 HB hHeld ⊢
      refine pure_ (i := 0) (N := some 12) (v := ?_) (a' := ?_) #[true, false, false, false, false, false, false, false, false] rfl rfl (any_of HT_.out (by kernel_rfl)) (fun _ _ _ h => h) (Or.inl ⟨by rfl, ?_⟩) ?_ ?_
      rotate_left
      · intro w'
        go_simp
        with_reducible rfl
      rotate_left
      · simp only [Act.put, List.setIfInBounds_toArray, List.set_cons_zero, List.set_cons_succ, i64_w, i32_w]
        rfl
      refine pure_ (i := 2) (N := some 14) (v := ?_) (a' := ?_) #[true, false, true, false, false, false, false, false, false] rfl rfl (any_of HT_.out (by kernel_rfl)) (fun _ _ _ h => h) (Or.inl ⟨by rfl, ?_⟩) ?_ ?_
      rotate_left
      · intro w'
        go_simp
        with_reducible rfl
      rotate_left
      · simp only [Act.put, List.setIfInBounds_toArray, List.set_cons_zero, List.set_cons_succ, i64_w, i32_w]
        rfl
      refine pure_ (i := 4) (N := some 16) (v := ?_) (a' := ?_) #[true, false, true, false, true, false, false, false, false] rfl rfl (any_of HT_.out (by kernel_rfl)) (fun _ _ _ h => h) (Or.inl ⟨by rfl, ?_⟩) ?_ ?_
      rotate_left
      · intro w'
        go_simp
        with_reducible rfl
      rotate_left
      · simp only [Act.put, List.setIfInBounds_toArray, List.set_cons_zero, List.set_cons_succ, i64_w, i32_w]
        rfl
      refine take_ (i := 1) (N := some 13) (v := ?_) (a' := ?_) #[true, true, true, false, true, false, false, false, false] rfl rfl (take_ofW HT_.out HW_.out (by kernel_rfl)) (fun _ _ _ h => h) (Or.inl ⟨by rfl, ?_⟩) hHeld ?_ ?_
      rotate_left
      · rintro w' ⟨s0, s1, s2, s3, s4, s5⟩
        go_simp
        with_reducible rfl
      rotate_left
      · simp only [Act.put, List.setIfInBounds_toArray, List.set_cons_zero, List.set_cons_succ, i64_w, i32_w]
        rfl
      refine pure_ (i := 6) (N := some 5) (v := ?_) (a' := ?_) #[true, true, true, false, true, false, true, false, false] rfl rfl (any_of HT_.out (by kernel_rfl)) (fun _ _ _ h => h) (Or.inl ⟨by rfl, ?_⟩) ?_ ?_
      rotate_left
      · intro w'
        go_simp
        with_reducible rfl
      rotate_left
      · simp only [Act.put, List.setIfInBounds_toArray, List.set_cons_zero, List.set_cons_succ, i64_w, i32_w]
        rfl
      refine take_ (i := 3) (N := some 15) (v := ?_) (a' := ?_) #[true, true, true, true, true, false, true, false, false] rfl rfl (take_ofW HT_.out HW_.out (by kernel_rfl)) (fun _ _ _ h => h) (Or.inl ⟨by rfl, ?_⟩) hHeld ?_ ?_
      rotate_left
      · rintro w' ⟨s0, s1, s2, s3, s4, s5⟩
        go_simp
        with_reducible rfl
      rotate_left
      · simp only [Act.put, List.setIfInBounds_toArray, List.set_cons_zero, List.set_cons_succ, i64_w, i32_w]
        rfl
      refine pure_ (i := 7) (N := some 6) (v := ?_) (a' := ?_) #[true, true, true, true, true, false, true, true, false] rfl rfl (any_of HT_.out (by kernel_rfl)) (fun _ _ _ h => h) (Or.inl ⟨by rfl, ?_⟩) ?_ ?_
      rotate_left
      · intro w'
        go_simp
        with_reducible rfl
      rotate_left
      · simp only [Act.put, List.setIfInBounds_toArray, List.set_cons_zero, List.set_cons_succ, i64_w, i32_w]
        rfl
      refine take_ (i := 5) (N := some 17) (v := ?_) (a' := ?_) #[true, true, true, true, true, true, true, true, false] rfl rfl (take_ofW HT_.out HW_.out (by kernel_rfl)) (fun _ _ _ h => h) (Or.inl ⟨by rfl, ?_⟩) hHeld ?_ ?_
      rotate_left
      · rintro w' ⟨s0, s1, s2, s3, s4, s5⟩
        go_simp
        with_reducible rfl
      rotate_left
      · simp only [Act.put, List.setIfInBounds_toArray, List.set_cons_zero, List.set_cons_succ, i64_w, i32_w]
        rfl
      refine pure_ (i := 8) (N := some 7) (v := ?_) (a' := ?_) #[true, true, true, true, true, true, true, true, true] rfl rfl (any_of HT_.out (by kernel_rfl)) (fun _ _ _ h => h) (Or.inl ⟨by rfl, ?_⟩) ?_ ?_
      rotate_left
      · intro w'
        go_simp
        with_reducible rfl
      rotate_left
      · simp only [Act.put, List.setIfInBounds_toArray, List.set_cons_zero, List.set_cons_succ, i64_w, i32_w]
        rfl
      refine done_ (done_of HT_.out (by kernel_rfl)) ?_
      have hcz43_0 : w42.cell? ⟨gb292, 0, none⟩ = some (.int .i64 a0_0) := (blk_cell BK292.out 0).trans rfl
      have hcz43_1 : w42.cell? ⟨gb292, 1, none⟩ = some (.int .u64 a0_1) := (blk_cell BK292.out 1).trans rfl
      have hcz43_2 : w42.cell? ⟨gb292, 2, none⟩ = some (.int .u64 a0_2) := (blk_cell BK292.out 2).trans rfl
      have hcz43_3 : w42.cell? ⟨gb292, 3, none⟩ = some (.int .u64 a0_3) := (blk_cell BK292.out 3).trans rfl
      have hcz43_4 : w42.cell? ⟨gb292, 4, none⟩ = some (.string a0_4) := (blk_cell BK292.out 4).trans rfl
      have hcz43_5 : w42.cell? ⟨gb292, 5, none⟩ = some (.bool false) := (blk_cell BK292.out 5).trans rfl
      have hfz43_0 := blk_frozen BK292.out 0
      have hfz43_1 := blk_frozen BK292.out 1
      have hfz43_2 := blk_frozen BK292.out 2
      have hfz43_3 := blk_frozen BK292.out 3
      have hfz43_4 := blk_frozen BK292.out 4
      have hfz43_5 := blk_frozen BK292.out 5
      go_upto_region 11 with (fail)
      go_cut [44] (fun v44 wc => ∃ (kq : Nat) (x44_38 : Bool), v44 = .bool x44_38 ∧ Aside0 (portmanteauref18_Print.j0 kq (⟨#[]⟩ : ByteArray) a0_1 a0_2 a0_3 x44_38 a0_0 a0_1 a0_2 a0_3 a0_4 false = some (r1, r2)) ∧ Aside0 (kq ≤ k) ∧ Aside0 (wc.heap[gb292]? = some (.cells #[.int .i64 a0_0, .int .u64 a0_1, .int .u64 a0_2, .int .u64 a0_3, .string a0_4, .bool false] 29 (0, 0))) ∧ Aside0 (Below w.heap.size w wc))
      case first =>
        have H := HC39.out
        clear HC39
        by_cases c44 : a0_1 ≥ 65535
        · rw [if_pos c44] at H
          have c44b0 : decide (65535 ≤ a0_1) = true := decide_eq_true c44
          clear c44
          (first | rw [c44b0] | (simp only [i64_w, i32_w]; rw [c44b0]) | skip)
          have H' := Aside0.mk H
          clear H
          go_wp2
          go_meet
          case rel => exact ⟨_, (true), (by first | rfl | (simp; done) | (simp [*]; done)), H', ⟨by first | omega | exact Nat.le_refl _⟩, ⟨by (with_reducible repeat (first | refine blk_drewN ?_ _ | refine blk_drew ?_ | refine blk_alloc ?_ _)); exact BK292.out⟩, ⟨by repeat (first | (with_reducible first | exact HB.out | apply below_alloc | apply pw_below_drewN | apply below_drew1 | refine below_set ?_ GE292.out) | exact HB.out)⟩⟩
        · rw [if_neg c44] at H
          have c44b0 : decide (65535 ≤ a0_1) = false := decide_eq_false c44
          clear c44
          (first | rw [c44b0] | (simp only [i64_w, i32_w]; rw [c44b0]) | skip)
          by_cases c45 : a0_2 ≥ 4294967295
          · rw [if_pos c45] at H
            have c45b0 : decide (4294967295 ≤ a0_2) = true := decide_eq_true c45
            clear c45
            have H' := Aside0.mk H
            clear H
            go_wp2
            go_meet
            case rel => exact ⟨_, (true), (by first | rfl | (simp; done) | (simp [*]; done)), H', ⟨by first | omega | exact Nat.le_refl _⟩, ⟨by (with_reducible repeat (first | refine blk_drewN ?_ _ | refine blk_drew ?_ | refine blk_alloc ?_ _)); exact BK292.out⟩, ⟨by repeat (first | (with_reducible first | exact HB.out | apply below_alloc | apply pw_below_drewN | apply below_drew1 | refine below_set ?_ GE292.out) | exact HB.out)⟩⟩
          · rw [if_neg c45] at H
            have c45b0 : decide (4294967295 ≤ a0_2) = false := decide_eq_false c45
            clear c45
            have H' := Aside0.mk H
            clear H
            go_wp2
            go_meet
            case rel => exact ⟨_, (decide (a0_3 ≥ 4294967295)), (by first | rfl | (simp; done) | (simp [*]; done)), H', ⟨by first | omega | exact Nat.le_refl _⟩, ⟨by (with_reducible repeat (first | refine blk_drewN ?_ _ | refine blk_drew ?_ | refine blk_alloc ?_ _)); exact BK292.out⟩, ⟨by repeat (first | (with_reducible first | exact HB.out | apply below_alloc | apply pw_below_drewN | apply below_drew1 | refine below_set ?_ GE292.out) | exact HB.out)⟩⟩
      case rest =>
        clear HC39
        try clear c1
        try clear c2
        try clear p2
        try clear c3
        try clear c4
        try clear c5
        try clear c10
        try clear c13
        try clear c14
        try clear c22
        try clear c23
        try clear c24
        try clear c37
        try clear c44
        try clear c44b0
        try clear c45
        try clear c45b0
        try clear hcz18_0
        try clear hcz18_1
        try clear hcz18_2
        try clear hcz18_3
        try clear hcz18_4
        try clear hcz18_5
        try clear hcz41_0
        try clear hcz41_1
        try clear hcz41_2
        try clear hcz41_3
        try clear hcz41_4
        try clear hcz41_5
        try clear hcz43_0
        try clear hcz43_1
        try clear hcz43_2
        try clear hcz43_3
        try clear hcz43_4
        try clear hcz43_5
        try clear hfz18_0
        try clear hfz18_1
        try clear hfz18_2
        try clear hfz18_3
        try clear hfz18_4
        try clear hfz18_5
        try clear hfz41_0
        try clear hfz41_1
        try clear hfz41_2
        try clear hfz41_3
        try clear hfz41_4
        try clear hfz41_5
        try clear hfz43_0
        try clear hfz43_1
        try clear hfz43_2
        try clear hfz43_3
        try clear hfz43_4
        try clear hfz43_5
        obtain ⟨kq, x44_38, rfl, HA, HJ38, BK292, HB⟩ := hcut
        cases kq with
        | zero => exact absurd HA.out (by simp [portmanteauref18_Print.j0])
        | succ kj38 =>
          have H := HA.out
          clear HA
          simp only [portmanteauref18_Print.j0] at H
          by_cases c46 : x44_38 = true
          · subst c46
            have H1 : (some ((⟨#[]⟩ : ByteArray), 8)) = some (r1, r2) := by rw [if_pos rfl] at H; exact H
            clear H
            have H := H1
            clear H1
            simp only [Option.some.injEq, Prod.mk.injEq] at H
            obtain ⟨rfl, rfl⟩ := H
            go_wp2
            go_ret2
            exact ⟨by first | rfl | (simp [errW_none, errW_some] <;> rfl) | (simp [*, errW_none, errW_some] <;> rfl), by repeat (first | (with_reducible first | exact HB.out | apply below_alloc | apply pw_below_drewN | apply below_drew1 | refine below_set ?_ GE292.out) | exact HB.out)⟩
          · replace c46 := Bool.eq_false_iff.mpr c46
            subst c46
            have H1 : ((portmanteauref18_ends.f).bind fun t317 => ((portmanteauref17_Print.f kj38 (([101010256, 0, 0, a0_1, a0_1, a0_2, a0_3, IntKind.u64.wrap ((a0_4.size : Int))] : List Int)) t317).bind fun t320 => (if (⟨#[]⟩ : ByteArray).size + t320.size ≤ 9223372036854775807 then (if (⟨#[]⟩ : ByteArray).size + t320.size + a0_4.size ≤ 9223372036854775807 then (some (((⟨#[]⟩ : ByteArray) ++ t320) ++ a0_4, 0)) else (none)) else (none)))) = some (r1, r2) := by rw [if_neg (show ¬ (false = true) by decide)] at H; exact H
            clear H
            have H := H1
            clear H1
            obtain ⟨y314, hy314⟩ : ∃ y_ : List Int, y_ = (([101010256, 0, 0, a0_1, a0_1, a0_2, a0_3, IntKind.u64.wrap ((a0_4.size : Int))] : List Int)) := ⟨_, rfl⟩
            replace H : ((portmanteauref18_ends.f).bind fun t317 => ((portmanteauref17_Print.f kj38 y314 t317).bind fun t320 => (if (⟨#[]⟩ : ByteArray).size + t320.size ≤ 9223372036854775807 then (if (⟨#[]⟩ : ByteArray).size + t320.size + a0_4.size ≤ 9223372036854775807 then (some (((⟨#[]⟩ : ByteArray) ++ t320) ++ a0_4, 0)) else (none)) else (none)))) = some (r1, r2) := by first | (rw [hy314]; with_reducible exact H) | (have H2_ := (Option.bind_some _ _).symm.trans H; rw [hy314]; with_reducible exact H2_) | (have H2_ := (Option.bind_some _ _).symm.trans H; with_reducible exact H2_) | with_reducible exact H | (rw [hy314]; exact H) | exact H
            have Ny314 := Aside0.mk hy314
            clear hy314
            replace H := Option.bind_eq_some_iff.mp H
            obtain ⟨t317, A470, H⟩ := H
            replace H : ((portmanteauref17_Print.f kj38 y314 t317).bind fun t320 => (if (⟨#[]⟩ : ByteArray).size + t320.size ≤ 9223372036854775807 then (if (⟨#[]⟩ : ByteArray).size + t320.size + a0_4.size ≤ 9223372036854775807 then (some (((⟨#[]⟩ : ByteArray) ++ t320) ++ a0_4, 0)) else (none)) else (none))) = some (r1, r2) := H
            have A47 := Aside0.mk A470
            clear A470
            replace H := Option.bind_eq_some_iff.mp H
            obtain ⟨t320, A480, H⟩ := H
            replace H : (if (⟨#[]⟩ : ByteArray).size + t320.size ≤ 9223372036854775807 then (if (⟨#[]⟩ : ByteArray).size + t320.size + a0_4.size ≤ 9223372036854775807 then (some (((⟨#[]⟩ : ByteArray) ++ t320) ++ a0_4, 0)) else (none)) else (none)) = some (r1, r2) := H
            have A48 := Aside0.mk A480
            clear A480
            by_cases c49 : (⟨#[]⟩ : ByteArray).size + t320.size ≤ 9223372036854775807
            · rw [if_pos c49] at H
              have c49b0 := eq_true c49
              have c49b1 : decide ((⟨#[]⟩ : ByteArray).size + t320.size ≤ 9223372036854775807) = true := decide_eq_true c49
              try have c49b2 : (9223372036854775807 < (⟨#[]⟩ : ByteArray).size + t320.size) = False := eq_false (Nat.not_lt.2 c49)
              by_cases c50 : (⟨#[]⟩ : ByteArray).size + t320.size + a0_4.size ≤ 9223372036854775807
              · rw [if_pos c50] at H
                have c50b0 := eq_true c50
                have c50b1 : decide ((⟨#[]⟩ : ByteArray).size + t320.size + a0_4.size ≤ 9223372036854775807) = true := decide_eq_true c50
                try have c50b2 : (9223372036854775807 < (⟨#[]⟩ : ByteArray).size + t320.size + a0_4.size) = False := eq_false (Nat.not_lt.2 c50)
                simp only [Option.some.injEq, Prod.mk.injEq] at H
                obtain ⟨rfl, rfl⟩ := H
                try go_wp2
                have n0_ := Aside0.mk (blk_drew BK292.out)
                have n1_ := Aside0.mk (below_drew1 HB.out)
                clear BK292
                clear HB
                have BK292 := n0_
                have HB := n1_
                clear n0_ n1_
                refine start_ (n := 18) (S := fun w' => True) (ds := []) #[false, false, false, false, false, false, false, false, false, false, false, false, false, false, false, false, false, false] (by kernel_rfl) rfl rfl trivial (fun hHeld => ?_); refine with_tabW portmanteauref18_Print.tab13 portmanteauref18_Print.bits13 (fun HT_ HW_ => ?_)
                generalize wc.drew = w51 at BK292 HB hHeld ⊢
                refine pure_ (i := 0) (N := some 45) (v := ?_) (a' := ?_) #[true, false, false, false, false, false, false, false, false, false, false, false, false, false, false, false, false, false] rfl rfl (any_of HT_.out (by kernel_rfl)) (fun _ _ _ h => h) (Or.inl ⟨by rfl, ?_⟩) ?_ ?_
                rotate_left
                · intro w'
                  go_simp
                  with_reducible rfl
                rotate_left
                · simp only [Act.put, List.setIfInBounds_toArray, List.set_cons_zero, List.set_cons_succ, i64_w, i32_w]
                  rfl
                refine pure_ (i := 1) (N := some 46) (v := ?_) (a' := ?_) #[true, true, false, false, false, false, false, false, false, false, false, false, false, false, false, false, false, false] rfl rfl (any_of HT_.out (by kernel_rfl)) (fun _ _ _ h => h) (Or.inl ⟨by rfl, ?_⟩) ?_ ?_
                rotate_left
                · intro w'
                  go_simp
                  with_reducible rfl
                rotate_left
                · simp only [Act.put, List.setIfInBounds_toArray, List.set_cons_zero, List.set_cons_succ, i64_w, i32_w]
                  rfl
                refine pure_ (i := 2) (N := some 47) (v := ?_) (a' := ?_) #[true, true, true, false, false, false, false, false, false, false, false, false, false, false, false, false, false, false] rfl rfl (any_of HT_.out (by kernel_rfl)) (fun _ _ _ h => h) (Or.inl ⟨by rfl, ?_⟩) ?_ ?_
                rotate_left
                · intro w'
                  go_simp
                  with_reducible rfl
                rotate_left
                · simp only [Act.put, List.setIfInBounds_toArray, List.set_cons_zero, List.set_cons_succ, i64_w, i32_w]
                  rfl
                refine pure_ (i := 3) (N := some 48) (v := ?_) (a' := ?_) #[true, true, true, true, false, false, false, false, false, false, false, false, false, false, false, false, false, false] rfl rfl (any_of HT_.out (by kernel_rfl)) (fun _ _ _ h => h) (Or.inl ⟨by rfl, ?_⟩) ?_ ?_
                rotate_left
                · intro w'
                  go_simp
                  with_reducible rfl
                rotate_left
                · simp only [Act.put, List.setIfInBounds_toArray, List.set_cons_zero, List.set_cons_succ, i64_w, i32_w]
                  rfl
                refine pure_ (i := 4) (N := some 49) (v := ?_) (a' := ?_) #[true, true, true, true, true, false, false, false, false, false, false, false, false, false, false, false, false, false] rfl rfl (any_of HT_.out (by kernel_rfl)) (fun _ _ _ h => h) (Or.inl ⟨by rfl, ?_⟩) ?_ ?_
                rotate_left
                · intro w'
                  go_simp
                  with_reducible rfl
                rotate_left
                · simp only [Act.put, List.setIfInBounds_toArray, List.set_cons_zero, List.set_cons_succ, i64_w, i32_w]
                  rfl
                refine pure_ (i := 5) (N := some 50) (v := ?_) (a' := ?_) #[true, true, true, true, true, true, false, false, false, false, false, false, false, false, false, false, false, false] rfl rfl (any_of HT_.out (by kernel_rfl)) (fun _ _ _ h => h) (Or.inl ⟨by rfl, ?_⟩) ?_ ?_
                rotate_left
                · intro w'
                  go_simp
                  with_reducible rfl
                rotate_left
                · simp only [Act.put, List.setIfInBounds_toArray, List.set_cons_zero, List.set_cons_succ, i64_w, i32_w]
                  rfl
                refine pure_ (i := 13) (N := some 58) (v := ?_) (a' := ?_) #[true, true, true, true, true, true, false, false, false, false, false, false, false, true, false, false, false, false] rfl rfl (any_of HT_.out (by kernel_rfl)) (fun _ _ _ h => h) (Or.inl ⟨by rfl, ?_⟩) ?_ ?_
                rotate_left
                · intro w'
                  go_simp
                  with_reducible rfl
                rotate_left
                · simp only [Act.put, List.setIfInBounds_toArray, List.set_cons_zero, List.set_cons_succ, i64_w, i32_w]
                  rfl
                refine inv_at [6, 7, 8, 9, 10, 11, 12, 14, 15, 16, 17] (fun a0_ b a w' => ∃ (v315 : Value) (v318 : Value), a = putSel a0_ b [(6, 51, .string a0_4), (7, 52, .int .i64 (a0_4.size : Int)), (8, 53, .int .u64 (IntKind.u64.wrap ((a0_4.size : Int)))), (9, 54, v315), (10, 55, v318), (11, 56, .string t320), (12, 57, .string ((⟨#[]⟩ : ByteArray) ++ t320)), (14, 59, .string a0_4), (15, 60, .string (((⟨#[]⟩ : ByteArray) ++ t320) ++ a0_4)), (16, 2, .string (((⟨#[]⟩ : ByteArray) ++ t320) ++ a0_4)), (17, 3, .int .i64 0)] ∧ (w'.heap[gb292]? = some (.cells #[.int .i64 a0_0, .int .u64 a0_1, .int .u64 a0_2, .int .u64 a0_3, .string a0_4, .bool false] 29 (0, 0))) ∧ (Below w.heap.size w w') ∧ (b 9 = true → Kd.R (Kd.int .u64) 23 w' w.heap.size (fun _ => True) v315 y314) ∧ (b 10 = true → Kd.R (Kd.int .i64) 3 w' w.heap.size (fun _ => True) v318 t317)) HT_.out HW_.out (by kernel_rfl) (by kernel_rfl) ?_ ?_ ?_
                · exact ⟨.bool false, .bool false, by simp only [putSel, Bool.false_eq_true, if_false], BK292.out, HB.out, fun h_ => absurd h_ (by decide), fun h_ => absurd h_ (by decide)⟩
                · skip
                  clear BK292 HB
                  refine steps_cons ?_ ?_
                  · rintro b a w' ⟨v315, v318, ha, Q_BK292, Q_HB, Q_HO316, Q_HO319⟩ hb_ hon hoff
                    refine ⟨_, rfl, fun K hK => ?_⟩
                    have e50 : a.tmps[50]? = some (.pointer (some ⟨gb292, 4, none⟩)) := by rw [ha]; exact (putSel_off rfl).trans rfl
                    replace ha := Aside0.mk ha
                    have BK292 := Aside0.mk Q_BK292
                    have HB := Aside0.mk Q_HB
                    have hc0_ : w'.cell? ⟨gb292, 0, none⟩ = some (.int .i64 a0_0) := (blk_cell BK292.out 0).trans rfl
                    have hc1_ : w'.cell? ⟨gb292, 1, none⟩ = some (.int .u64 a0_1) := (blk_cell BK292.out 1).trans rfl
                    have hc2_ : w'.cell? ⟨gb292, 2, none⟩ = some (.int .u64 a0_2) := (blk_cell BK292.out 2).trans rfl
                    have hc3_ : w'.cell? ⟨gb292, 3, none⟩ = some (.int .u64 a0_3) := (blk_cell BK292.out 3).trans rfl
                    have hc4_ : w'.cell? ⟨gb292, 4, none⟩ = some (.string a0_4) := (blk_cell BK292.out 4).trans rfl
                    have hc5_ : w'.cell? ⟨gb292, 5, none⟩ = some (.bool false) := (blk_cell BK292.out 5).trans rfl
                    refine value_ (w1 := w') (v := .string a0_4) (by rfl) rfl ?_ ?_
                    · go_simp
                      (try simp only [i64_w])
                      try rfl
                    refine hK.out _ _ ⟨v315, v318, (by rw [ha.out]; exact putSel_upk 0 hb_ rfl rfl rfl), Q_BK292, Q_HB, fun h0_ => absurd ((hoff 9 (by kernel_rfl)).symm.trans h0_) (by decide), Q_HO319⟩
                  refine steps_cons ?_ ?_
                  · rintro b a w' ⟨v315, v318, ha, Q_BK292, Q_HB, Q_HO316, Q_HO319⟩ hb_ hon hoff
                    refine ⟨_, rfl, fun K hK => ?_⟩
                    have e51 : a.tmps[51]? = some (.string a0_4) := by rw [ha]; exact putSel_on (e := (6, 51, .string a0_4)) 0 rfl rfl (hon 6 (by kernel_rfl)) rfl
                    replace ha := Aside0.mk ha
                    have BK292 := Aside0.mk Q_BK292
                    have HB := Aside0.mk Q_HB
                    refine value_ (w1 := w') (v := .int .i64 (a0_4.size : Int)) (by rfl) rfl ?_ ?_
                    · go_simp
                      (try simp only [i64_w])
                      try rfl
                    refine hK.out _ _ ⟨v315, v318, (by rw [ha.out]; exact putSel_upk 1 hb_ rfl rfl rfl), Q_BK292, Q_HB, fun h0_ => absurd ((hoff 9 (by kernel_rfl)).symm.trans h0_) (by decide), Q_HO319⟩
                  refine steps_cons ?_ ?_
                  · rintro b a w' ⟨v315, v318, ha, Q_BK292, Q_HB, Q_HO316, Q_HO319⟩ hb_ hon hoff
                    refine ⟨_, rfl, fun K hK => ?_⟩
                    have e52 : a.tmps[52]? = some (.int .i64 (a0_4.size : Int)) := by rw [ha]; exact putSel_on (e := (7, 52, .int .i64 (a0_4.size : Int))) 1 rfl rfl (hon 7 (by kernel_rfl)) rfl
                    replace ha := Aside0.mk ha
                    have BK292 := Aside0.mk Q_BK292
                    have HB := Aside0.mk Q_HB
                    refine value_ (w1 := w') (v := .int .u64 (IntKind.u64.wrap ((a0_4.size : Int)))) (by rfl) rfl ?_ ?_
                    · go_simp
                      (try simp only [i64_w])
                      try rfl
                    refine hK.out _ _ ⟨v315, v318, (by rw [ha.out]; exact putSel_upk 2 hb_ rfl rfl rfl), Q_BK292, Q_HB, fun h0_ => absurd ((hoff 9 (by kernel_rfl)).symm.trans h0_) (by decide), Q_HO319⟩
                  refine steps_cons ?_ ?_
                  · rintro b a w' ⟨v315, v318, ha, Q_BK292, Q_HB, Q_HO316, Q_HO319⟩ hb_ hon hoff
                    refine ⟨_, rfl, fun K hK => ?_⟩
                    have e46 : a.tmps[46]? = some (.int .u64 a0_1) := by rw [ha]; exact (putSel_off rfl).trans rfl
                    have e47 : a.tmps[47]? = some (.int .u64 a0_1) := by rw [ha]; exact (putSel_off rfl).trans rfl
                    have e48 : a.tmps[48]? = some (.int .u64 a0_2) := by rw [ha]; exact (putSel_off rfl).trans rfl
                    have e49 : a.tmps[49]? = some (.int .u64 a0_3) := by rw [ha]; exact (putSel_off rfl).trans rfl
                    have e53 : a.tmps[53]? = some (.int .u64 (IntKind.u64.wrap ((a0_4.size : Int)))) := by rw [ha]; exact putSel_on (e := (8, 53, .int .u64 (IntKind.u64.wrap ((a0_4.size : Int))))) 2 rfl rfl (hon 8 (by kernel_rfl)) rfl
                    replace ha := Aside0.mk ha
                    have BK292 := Aside0.mk Q_BK292
                    have HB := Aside0.mk Q_HB
                    refine Kd.R_lit_step (Kd.int .u64) _ 23 ?hg (N := 54) ?hd (xs := ([101010256, 0, 0, a0_1, a0_1, a0_2, a0_3, IntKind.u64.wrap ((a0_4.size : Int))] : List Int)) (inner := [.int .u64 101010256, .int .u64 0, .int .u64 0, .int .u64 a0_1, .int .u64 a0_1, .int .u64 a0_2, .int .u64 a0_3, .int .u64 (IntKind.u64.wrap ((a0_4.size : Int)))]) (ok := fun _ => True) (okp := fun _ => True) ?hr ?hp (fun _ hk => hk) trivial (Below.refl _ _) (Nat.le_refl _) (by simp) ?_; (case hd => rfl); (case hg => rfl); (case hr => first | (go_simp; done) | (go_simp; rfl)); (case hp => exact (Reps.one (show Kd.M (Kd.int .u64) _ _ _ 101010256 [.int .u64 101010256] from rfl) (Reps.one (show Kd.M (Kd.int .u64) _ _ _ 0 [.int .u64 0] from rfl) (Reps.one (show Kd.M (Kd.int .u64) _ _ _ 0 [.int .u64 0] from rfl) (Reps.one (show Kd.M (Kd.int .u64) _ _ _ a0_1 [.int .u64 a0_1] from rfl) (Reps.one (show Kd.M (Kd.int .u64) _ _ _ a0_1 [.int .u64 a0_1] from rfl) (Reps.one (show Kd.M (Kd.int .u64) _ _ _ a0_2 [.int .u64 a0_2] from rfl) (Reps.one (show Kd.M (Kd.int .u64) _ _ _ a0_3 [.int .u64 a0_3] from rfl) (Reps.one (show Kd.M (Kd.int .u64) _ _ _ (IntKind.u64.wrap ((a0_4.size : Int))) [.int .u64 (IntKind.u64.wrap ((a0_4.size : Int)))] from rfl) (Reps.none _ _))))))))))
                    intro v315 w52 ho53 hb hg_ hnew_
                    clear hg_ hnew_
                    (first | rw [← Ny314.out] at ho53 | (simp only [Int.reduceToNat] at ho53; rw [← Ny314.out] at ho53))
                    have n0_ := Aside0.mk (Kd.R_lower ho53 (below_size (by repeat (first | (with_reducible first | exact HB.out | apply below_alloc | apply pw_below_drewN | apply below_drew1 | refine below_set ?_ GE292.out) | exact HB.out))))
                    have n1_ := Aside0.mk (blk_below (g := gb292) (o := .cells #[.int .i64 a0_0, .int .u64 a0_1, .int .u64 a0_2, .int .u64 a0_3, .string a0_4, .bool false] 29 (0, 0)) (by (with_reducible repeat (first | refine blk_drewN ?_ _ | refine blk_drew ?_ | refine blk_alloc ?_ _)); exact BK292.out) hb)
                    have n2_ := Aside0.mk (below_step (by repeat (first | (with_reducible first | exact HB.out | apply below_alloc | apply pw_below_drewN | apply below_drew1 | refine below_set ?_ GE292.out) | exact HB.out)) hb)
                    have z_HO319 := fun (h0_ : b 10 = true) => (show Kd.R (Kd.int .i64) 3 w52 w.heap.size (fun _ => True) v318 t317 from by first | exact (Kd.R_below (by (with_reducible repeat (first | apply Kd.R_alloc | apply Kd.R_drewN | apply Kd.R_drew)); exact (Q_HO319 h0_)) hb) | exact Kd.R_mono (Kd.R_below (by (with_reducible repeat (first | apply Kd.R_alloc | apply Kd.R_drewN | apply Kd.R_drew)); exact (Q_HO319 h0_)) hb) (fun _ h_ => by first | trivial | exact h_ | exact h_.1))
                    clear BK292
                    clear HB
                    have HO316 := n0_
                    have BK292 := n1_
                    have HB := n2_
                    clear n0_ n1_ n2_
                    clear hb ho53
                    refine hK.out _ _ ⟨v315, v318, (by rw [ha.out]; exact putSel_upk 3 hb_ rfl rfl rfl), (by (with_reducible repeat (first | refine blk_drewN ?_ _ | refine blk_drew ?_ | refine blk_alloc ?_ _)); exact BK292.out), (by repeat (first | (with_reducible first | exact HB.out | apply below_alloc | apply pw_below_drewN | apply below_drew1 | refine below_set ?_ GE292.out) | exact HB.out)), fun _ => (by (with_reducible repeat (first | apply Kd.R_alloc | apply Kd.R_drewN | apply Kd.R_drew)); exact HO316.out), z_HO319⟩
                  refine steps_cons ?_ ?_
                  · rintro b a w' ⟨v315, v318, ha, Q_BK292, Q_HB, Q_HO316, Q_HO319⟩ hb_ hon hoff
                    refine ⟨_, rfl, fun K hK => ?_⟩
                    replace ha := Aside0.mk ha
                    have BK292 := Aside0.mk Q_BK292
                    have HB := Aside0.mk Q_HB
                    refine goes_ Try.func22 (by kernel_rfl) rfl #[] (by rfl) rfl rfl (by first | (simp only [List.map_toArray, List.map_cons, List.map_nil, Act.eval, Array.getD_eq_getD_getElem?, Option.getD_some]; done) | (simp only [List.map_toArray, List.map_cons, List.map_nil, Act.eval, Array.getD_eq_getD_getElem?, Option.getD_some]; rfl)) ?_
                    with_reducible refine (portmanteauref18_ends.calls  t317 _ A47.out).mono ?_
                    rintro e w52 ⟨v318, rfl, ho0, hb⟩
                    refine ⟨_, rfl, ?_⟩
                    have n0_ := Aside0.mk (Kd.R_lower ho0 (below_size (by repeat (first | (with_reducible first | exact HB.out | apply below_alloc | apply pw_below_drewN | apply below_drew1 | refine below_set ?_ GE292.out) | exact HB.out))))
                    have n1_ := Aside0.mk (blk_below (g := gb292) (o := .cells #[.int .i64 a0_0, .int .u64 a0_1, .int .u64 a0_2, .int .u64 a0_3, .string a0_4, .bool false] 29 (0, 0)) (by (with_reducible repeat (first | refine blk_drewN ?_ _ | refine blk_drew ?_ | refine blk_alloc ?_ _)); exact BK292.out) hb)
                    have n2_ := Aside0.mk (below_step (by repeat (first | (with_reducible first | exact HB.out | apply below_alloc | apply pw_below_drewN | apply below_drew1 | refine below_set ?_ GE292.out) | exact HB.out)) hb)
                    have z_HO316 := fun (h0_ : b 9 = true) => (show Kd.R (Kd.int .u64) 23 w52 w.heap.size (fun _ => True) v315 y314 from by first | exact (Kd.R_below (by (with_reducible repeat (first | apply Kd.R_alloc | apply Kd.R_drewN | apply Kd.R_drew)); exact (Q_HO316 h0_)) hb) | exact Kd.R_mono (Kd.R_below (by (with_reducible repeat (first | apply Kd.R_alloc | apply Kd.R_drewN | apply Kd.R_drew)); exact (Q_HO316 h0_)) hb) (fun _ h_ => by first | trivial | exact h_ | exact h_.1))
                    clear BK292
                    clear HB
                    have HO319 := n0_
                    have BK292 := n1_
                    have HB := n2_
                    clear n0_ n1_ n2_
                    (try clear hb)
                    (try clear hb2)
                    (try clear hk)
                    (try clear hi)
                    (try clear ho0)
                    refine hK.out _ _ ⟨v315, v318, (by rw [ha.out]; exact putSel_upk 4 hb_ rfl rfl rfl), (by (with_reducible repeat (first | refine blk_drewN ?_ _ | refine blk_drew ?_ | refine blk_alloc ?_ _)); exact BK292.out), (by repeat (first | (with_reducible first | exact HB.out | apply below_alloc | apply pw_below_drewN | apply below_drew1 | refine below_set ?_ GE292.out) | exact HB.out)), z_HO316, fun _ => (by (with_reducible repeat (first | apply Kd.R_alloc | apply Kd.R_drewN | apply Kd.R_drew)); exact HO319.out)⟩
                  refine steps_cons ?_ ?_
                  · rintro b a w' ⟨v315, v318, ha, Q_BK292, Q_HB, Q_HO316, Q_HO319⟩ hb_ hon hoff
                    refine ⟨_, rfl, fun K hK => ?_⟩
                    have e54 : a.tmps[54]? = some (v315) := by rw [ha]; exact putSel_on (e := (9, 54, v315)) 3 rfl rfl (hon 9 (by kernel_rfl)) rfl
                    have e55 : a.tmps[55]? = some (v318) := by rw [ha]; exact putSel_on (e := (10, 55, v318)) 4 rfl rfl (hon 10 (by kernel_rfl)) rfl
                    replace ha := Aside0.mk ha
                    have BK292 := Aside0.mk Q_BK292
                    have HB := Aside0.mk Q_HB
                    have HO316 := Aside0.mk (Q_HO316 (hon 9 (by kernel_rfl)))
                    have HO319 := Aside0.mk (Q_HO319 (hon 10 (by kernel_rfl)))
                    obtain ⟨Ao56, co56, eo56⟩ := Kd.R_slice HO316.out
                    (first | subst eo56 | (injection eo56 with f1_ f2_ f3_; have f4_ := f1_.symm; have f5_ := f3_.symm; clear f1_ f2_ f3_; subst f4_; subst f5_))
                    obtain ⟨Ao57, co57, eo57⟩ := Kd.R_slice HO319.out
                    (first | subst eo57 | (injection eo57 with f1_ f2_ f3_; have f4_ := f1_.symm; have f5_ := f3_.symm; clear f1_ f2_ f3_; subst f4_; subst f5_))
                    refine goes_ Try.func37 (by kernel_rfl) rfl #[.slice Ao56 y314.length co56, .slice Ao57 t317.length co57] (by rfl) rfl rfl (by first | (simp only [List.map_toArray, List.map_cons, List.map_nil, Act.eval, Array.getD_eq_getD_getElem?, Option.getD_some, e54, e55]; done) | (simp only [List.map_toArray, List.map_cons, List.map_nil, Act.eval, Array.getD_eq_getD_getElem?, Option.getD_some, e54, e55]; rfl)) ?_
                    with_reducible refine (portmanteauref17_Print.calls kj38 _ _ y314 _ _ t317 t320 _ ?side1 ?side2 ?side3 ?side4 A48.out).mono ?_
                    (case side1 => repeat (first | exact (Kd.R_reads' HO316.out).2.2 | (with_reducible refine Kd.C_alloc ?_ _) | (with_reducible refine Kd.C_drewN ?_ _) | (with_reducible refine Kd.C_drew ?_)))
                    (case side2 => exact (Kd.R_reads' HO316.out).2.1)
                    (case side3 => repeat (first | exact (Kd.R_reads' HO319.out).2.2 | (with_reducible refine Kd.C_alloc ?_ _) | (with_reducible refine Kd.C_drewN ?_ _) | (with_reducible refine Kd.C_drew ?_)))
                    (case side4 => exact (Kd.R_reads' HO319.out).2.1)
                    rintro e w58 ⟨rfl, hb⟩
                    refine ⟨_, rfl, ?_⟩
                    have n0_ := Aside0.mk (Kd.R_below (by (with_reducible repeat (first | apply Kd.R_alloc | apply Kd.R_drewN | apply Kd.R_drew)); exact HO316.out) hb)
                    have n1_ := Aside0.mk (Kd.R_below (by (with_reducible repeat (first | apply Kd.R_alloc | apply Kd.R_drewN | apply Kd.R_drew)); exact HO319.out) hb)
                    have n2_ := Aside0.mk (blk_below (g := gb292) (o := .cells #[.int .i64 a0_0, .int .u64 a0_1, .int .u64 a0_2, .int .u64 a0_3, .string a0_4, .bool false] 29 (0, 0)) (by (with_reducible repeat (first | refine blk_drewN ?_ _ | refine blk_drew ?_ | refine blk_alloc ?_ _)); exact BK292.out) hb)
                    have n3_ := Aside0.mk (below_step (by repeat (first | (with_reducible first | exact HB.out | apply below_alloc | apply pw_below_drewN | apply below_drew1 | refine below_set ?_ GE292.out) | exact HB.out)) hb)
                    clear HO316
                    clear HO319
                    clear BK292
                    clear HB
                    have HO316 := n0_
                    have HO319 := n1_
                    have BK292 := n2_
                    have HB := n3_
                    clear n0_ n1_ n2_ n3_
                    (try clear hb)
                    (try clear hb2)
                    (try clear hk)
                    (try clear hi)
                    refine hK.out _ _ ⟨.slice Ao56 y314.length co56, .slice Ao57 t317.length co57, (by rw [ha.out]; exact putSel_upk 5 hb_ rfl rfl rfl), (by (with_reducible repeat (first | refine blk_drewN ?_ _ | refine blk_drew ?_ | refine blk_alloc ?_ _)); exact BK292.out), (by repeat (first | (with_reducible first | exact HB.out | apply below_alloc | apply pw_below_drewN | apply below_drew1 | refine below_set ?_ GE292.out) | exact HB.out)), fun _ => (by (with_reducible repeat (first | apply Kd.R_alloc | apply Kd.R_drewN | apply Kd.R_drew)); exact HO316.out), fun _ => (by (with_reducible repeat (first | apply Kd.R_alloc | apply Kd.R_drewN | apply Kd.R_drew)); exact HO319.out)⟩
                  refine steps_cons ?_ ?_
                  · rintro b a w' ⟨v315, v318, ha, Q_BK292, Q_HB, Q_HO316, Q_HO319⟩ hb_ hon hoff
                    refine ⟨_, rfl, fun K hK => ?_⟩
                    have e45 : a.tmps[45]? = some (.string (⟨#[]⟩ : ByteArray)) := by rw [ha]; exact (putSel_off rfl).trans rfl
                    have e56 : a.tmps[56]? = some (.string t320) := by rw [ha]; exact putSel_on (e := (11, 56, .string t320)) 5 rfl rfl (hon 11 (by kernel_rfl)) rfl
                    replace ha := Aside0.mk ha
                    have BK292 := Aside0.mk Q_BK292
                    have HB := Aside0.mk Q_HB
                    have HO316 := Aside0.mk (Q_HO316 (hon 9 (by kernel_rfl)))
                    have HO319 := Aside0.mk (Q_HO319 (hon 10 (by kernel_rfl)))
                    refine value_ (w1 := w') (v := .string ((⟨#[]⟩ : ByteArray) ++ t320)) (by rfl) rfl ?_ ?_
                    · go_simp
                      (try simp only [i64_w])
                      try rfl
                      (try (have hz_ : (⟨#[]⟩ : ByteArray).size = 0 := rfl; (try have hc10b0_ := of_eq_true c10b0); (try have hc13b0_ := of_eq_true c13b0); (try have hc14b0_ := of_eq_true c14b0); (try have hc49b0_ := of_eq_true c49b0); (try have hc50b0_ := of_eq_true c50b0); omega))
                    refine hK.out _ _ ⟨v315, v318, (by rw [ha.out]; exact putSel_upk 6 hb_ rfl rfl rfl), Q_BK292, Q_HB, Q_HO316, Q_HO319⟩
                  refine steps_cons ?_ ?_
                  · rintro b a w' ⟨v315, v318, ha, Q_BK292, Q_HB, Q_HO316, Q_HO319⟩ hb_ hon hoff
                    refine ⟨_, rfl, fun K hK => ?_⟩
                    have e58 : a.tmps[58]? = some (.pointer (some ⟨gb292, 4, none⟩)) := by rw [ha]; exact (putSel_off rfl).trans rfl
                    replace ha := Aside0.mk ha
                    have BK292 := Aside0.mk Q_BK292
                    have HB := Aside0.mk Q_HB
                    have hc0_ : w'.cell? ⟨gb292, 0, none⟩ = some (.int .i64 a0_0) := (blk_cell BK292.out 0).trans rfl
                    have hc1_ : w'.cell? ⟨gb292, 1, none⟩ = some (.int .u64 a0_1) := (blk_cell BK292.out 1).trans rfl
                    have hc2_ : w'.cell? ⟨gb292, 2, none⟩ = some (.int .u64 a0_2) := (blk_cell BK292.out 2).trans rfl
                    have hc3_ : w'.cell? ⟨gb292, 3, none⟩ = some (.int .u64 a0_3) := (blk_cell BK292.out 3).trans rfl
                    have hc4_ : w'.cell? ⟨gb292, 4, none⟩ = some (.string a0_4) := (blk_cell BK292.out 4).trans rfl
                    have hc5_ : w'.cell? ⟨gb292, 5, none⟩ = some (.bool false) := (blk_cell BK292.out 5).trans rfl
                    refine value_ (w1 := w') (v := .string a0_4) (by rfl) rfl ?_ ?_
                    · go_simp
                      (try simp only [i64_w])
                      try rfl
                    refine hK.out _ _ ⟨v315, v318, (by rw [ha.out]; exact putSel_upk 7 hb_ rfl rfl rfl), Q_BK292, Q_HB, Q_HO316, Q_HO319⟩
                  refine steps_cons ?_ ?_
                  · rintro b a w' ⟨v315, v318, ha, Q_BK292, Q_HB, Q_HO316, Q_HO319⟩ hb_ hon hoff
                    refine ⟨_, rfl, fun K hK => ?_⟩
                    have e57 : a.tmps[57]? = some (.string ((⟨#[]⟩ : ByteArray) ++ t320)) := by rw [ha]; exact putSel_on (e := (12, 57, .string ((⟨#[]⟩ : ByteArray) ++ t320))) 6 rfl rfl (hon 12 (by kernel_rfl)) rfl
                    have e59 : a.tmps[59]? = some (.string a0_4) := by rw [ha]; exact putSel_on (e := (14, 59, .string a0_4)) 7 rfl rfl (hon 14 (by kernel_rfl)) rfl
                    replace ha := Aside0.mk ha
                    have BK292 := Aside0.mk Q_BK292
                    have HB := Aside0.mk Q_HB
                    have HO316 := Aside0.mk (Q_HO316 (hon 9 (by kernel_rfl)))
                    have HO319 := Aside0.mk (Q_HO319 (hon 10 (by kernel_rfl)))
                    refine value_ (w1 := w') (v := .string (((⟨#[]⟩ : ByteArray) ++ t320) ++ a0_4)) (by rfl) rfl ?_ ?_
                    · go_simp
                      (try simp only [i64_w])
                      try rfl
                      (try (have hz_ : (⟨#[]⟩ : ByteArray).size = 0 := rfl; (try have hc10b0_ := of_eq_true c10b0); (try have hc13b0_ := of_eq_true c13b0); (try have hc14b0_ := of_eq_true c14b0); (try have hc49b0_ := of_eq_true c49b0); (try have hc50b0_ := of_eq_true c50b0); omega))
                    refine hK.out _ _ ⟨v315, v318, (by rw [ha.out]; exact putSel_upk 8 hb_ rfl rfl rfl), Q_BK292, Q_HB, Q_HO316, Q_HO319⟩
                  refine steps_cons ?_ ?_
                  · rintro b a w' ⟨v315, v318, ha, Q_BK292, Q_HB, Q_HO316, Q_HO319⟩ hb_ hon hoff
                    refine ⟨_, rfl, fun K hK => ?_⟩
                    have e60 : a.tmps[60]? = some (.string (((⟨#[]⟩ : ByteArray) ++ t320) ++ a0_4)) := by rw [ha]; exact putSel_on (e := (15, 60, .string (((⟨#[]⟩ : ByteArray) ++ t320) ++ a0_4))) 8 rfl rfl (hon 15 (by kernel_rfl)) rfl
                    replace ha := Aside0.mk ha
                    have BK292 := Aside0.mk Q_BK292
                    have HB := Aside0.mk Q_HB
                    have HO316 := Aside0.mk (Q_HO316 (hon 9 (by kernel_rfl)))
                    have HO319 := Aside0.mk (Q_HO319 (hon 10 (by kernel_rfl)))
                    refine value_ (w1 := w') (v := .string (((⟨#[]⟩ : ByteArray) ++ t320) ++ a0_4)) (by rfl) rfl ?_ ?_
                    · go_simp
                      (try simp only [i64_w])
                      try rfl
                      (try (have hz_ : (⟨#[]⟩ : ByteArray).size = 0 := rfl; (try have hc10b0_ := of_eq_true c10b0); (try have hc13b0_ := of_eq_true c13b0); (try have hc14b0_ := of_eq_true c14b0); (try have hc49b0_ := of_eq_true c49b0); (try have hc50b0_ := of_eq_true c50b0); omega))
                    refine hK.out _ _ ⟨v315, v318, (by rw [ha.out]; exact putSel_upk 9 hb_ rfl rfl rfl), Q_BK292, Q_HB, Q_HO316, Q_HO319⟩
                  refine steps_cons ?_ ?_
                  · rintro b a w' ⟨v315, v318, ha, Q_BK292, Q_HB, Q_HO316, Q_HO319⟩ hb_ hon hoff
                    refine ⟨_, rfl, fun K hK => ?_⟩
                    replace ha := Aside0.mk ha
                    have BK292 := Aside0.mk Q_BK292
                    have HB := Aside0.mk Q_HB
                    have HO316 := Aside0.mk (Q_HO316 (hon 9 (by kernel_rfl)))
                    have HO319 := Aside0.mk (Q_HO319 (hon 10 (by kernel_rfl)))
                    refine value_ (w1 := w') (v := .int .i64 0) (by rfl) rfl ?_ ?_
                    · go_simp
                      (try simp only [i64_w])
                      try rfl
                    refine hK.out _ _ ⟨v315, v318, (by rw [ha.out]; exact putSel_upk 10 hb_ rfl rfl rfl), Q_BK292, Q_HB, Q_HO316, Q_HO319⟩
                  exact steps_nil
                rintro b a w58 hall ⟨v315, v318, ha, Q_BK292, Q_HB, Q_HO316, Q_HO319⟩
                clear BK292 HB
                have hb6_ := hall 6 (by kernel_rfl)
                have hb7_ := hall 7 (by kernel_rfl)
                have hb8_ := hall 8 (by kernel_rfl)
                have hb9_ := hall 9 (by kernel_rfl)
                have hb10_ := hall 10 (by kernel_rfl)
                have hb11_ := hall 11 (by kernel_rfl)
                have hb12_ := hall 12 (by kernel_rfl)
                have hb14_ := hall 14 (by kernel_rfl)
                have hb15_ := hall 15 (by kernel_rfl)
                have hb16_ := hall 16 (by kernel_rfl)
                have hb17_ := hall 17 (by kernel_rfl)
                subst ha
                simp only [putSel, hb6_, hb7_, hb8_, hb9_, hb10_, hb11_, hb12_, hb14_, hb15_, hb16_, hb17_, if_true, Act.put, List.setIfInBounds_toArray, List.set_cons_zero, List.set_cons_succ]
                have BK292 := Aside0.mk Q_BK292
                clear Q_BK292
                have HB := Aside0.mk Q_HB
                clear Q_HB
                have HO316 := Aside0.mk (Q_HO316 hb9_)
                clear Q_HO316
                have HO319 := Aside0.mk (Q_HO319 hb10_)
                clear Q_HO319
                clear hall hb6_ hb7_ hb8_ hb9_ hb10_ hb11_ hb12_ hb14_ hb15_ hb16_ hb17_
                try go_wp2
                go_ret2
                exact ⟨by first | rfl | (simp [errW_none, errW_some] <;> rfl) | (simp [*, errW_none, errW_some] <;> rfl), by repeat (first | (with_reducible first | exact HB.out | apply below_alloc | apply pw_below_drewN | apply below_drew1 | refine below_set ?_ GE292.out) | exact HB.out)⟩
              · rw [if_neg c50] at H
                exact absurd H (by simp)
            · rw [if_neg c49] at H
              exact absurd H (by simp)

end Go.Proofs.Ytdooampgkiodjaa.P
