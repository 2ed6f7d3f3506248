/- Written by a program of this session (wip/print2: a patched copy of a printer), not by print.sh: Lean functions with the answers of the Go functions, and the proofs of that; no condition beside those that stand in each theorem. -/
import Derived.Test.YtloojhhjljneeaaDoorPx0
import Derived.Test.YtloojhhjljneeaaDoorPx1
namespace Go.Proofs.YtloojhhjljneeaaDoor.P
open Go.RowKit Go.Proofs.YtloojhhjljneeaaDoorW.PrintWords Go.Proofs.YtloojhhjljneeaaDoorW.PrintLast Go.Proofs.YtloojhhjljneeaaDoorW.PrintMore
attribute [local go_sem] max2_int min2_int max_two min_two max_three min_three max_four min_four   -- for this text's walks alone
set_option linter.unusedVariables false
set_option linter.unusedSimpArgs false

/-! ### field_PrintStamp: function 13 -/
mutual
def field_PrintStamp.j0 : Nat → Bool → Int → ByteArray → Int → Int → Int → Int → Option (ByteArray)
  | 0, _, _, _, _, _, _, _ => none
  | k + 1, x1, x5, x6, x224000, x224001, x224002, x224003 => if (Go.bits .and .u8 x5 2) = 0 then (field_PrintStamp.j1 k x1 x5 x6 false x224000 x224001 x224002 x224003) else (field_PrintStamp.j1 k x1 x5 x6 (!x1) x224000 x224001 x224002 x224003)
def field_PrintStamp.j1 : Nat → Bool → Int → ByteArray → Bool → Int → Int → Int → Int → Option (ByteArray)
  | 0, _, _, _, _, _, _, _, _ => none
  | k + 1, x1, x5, x6, x28, x224000, x224001, x224002, x224003 => if x28 = true then ((cursor_Four.f k ((x224002) % 4294967296)).bind fun t228 => (if x6.size + t228.size ≤ 9223372036854775807 then (if (Go.bits .and .u8 x5 4) = 0 then (some (x6 ++ t228)) else (if x1 = true then (some (x6 ++ t228)) else ((cursor_Four.f k ((x224003) % 4294967296)).bind fun t229 => (if x6.size + t228.size + t229.size ≤ 9223372036854775807 then (some ((x6 ++ t228) ++ t229)) else (none))))) else (none))) else (if (Go.bits .and .u8 x5 4) = 0 then (some x6) else (if x1 = true then (some x6) else ((cursor_Four.f k ((x224003) % 4294967296)).bind fun t230 => (if x6.size + t230.size ≤ 9223372036854775807 then (some (x6 ++ t230)) else (none)))))
end
def field_PrintStamp.f (k : Nat) (a0_0 : Int) (a0_1 : Int) (a0_2 : Int) (a0_3 : Int) (a1 : Bool) : Option (ByteArray) := (some (([Go.bits .and .u8 a0_0 7] : List Int) : List Int)).bind fun y224 => (if (Go.bits .and .u8 (Go.bits .and .u8 a0_0 7) 1) = 0 then (field_PrintStamp.j0 k a1 (Go.bits .and .u8 a0_0 7) (strOfNums y224) a0_0 a0_1 a0_2 a0_3) else ((cursor_Four.f k ((a0_1) % 4294967296)).bind fun t227 => (if (strOfNums y224).size + t227.size ≤ 9223372036854775807 then (field_PrintStamp.j0 k a1 (Go.bits .and .u8 a0_0 7) ((strOfNums y224) ++ t227) a0_0 a0_1 a0_2 a0_3) else (none))))
theorem field_PrintStamp.mono_l : ∀ k, (∀ y0 y1 y2 y3 y4 y5 y6, LeO (field_PrintStamp.j0 k y0 y1 y2 y3 y4 y5 y6) (field_PrintStamp.j0 (k + 1) y0 y1 y2 y3 y4 y5 y6)) ∧ (∀ y0 y1 y2 y3 y4 y5 y6 y7, LeO (field_PrintStamp.j1 k y0 y1 y2 y3 y4 y5 y6 y7) (field_PrintStamp.j1 (k + 1) y0 y1 y2 y3 y4 y5 y6 y7))
  | 0 => ⟨fun _ _ _ _ _ _ _ r h => by simp [field_PrintStamp.j0] at h, fun _ _ _ _ _ _ _ _ r h => by simp [field_PrintStamp.j1] at h⟩
  | k + 1 => by
    obtain ⟨ih0, ih1⟩ := field_PrintStamp.mono_l k
    refine ⟨?_, ?_⟩
    · intro y0 y1 y2 y3 y4 y5 y6
      unfold field_PrintStamp.j0
      repeat' first
      | (with_reducible exact ih0 _ _ _ _ _ _ _)
      | (with_reducible exact ih1 _ _ _ _ _ _ _ _)
      | (with_reducible exact cursor_Four.mono _ _)
      | (with_reducible exact LeO.refl _)
      | (with_reducible exact LeO.none _)
      | (with_reducible refine LeO.ite ?_ ?_)
      | (with_reducible refine LeO.bind ?_ (fun _ => ?_))
      | exact ih0 _ _ _ _ _ _ _
      | exact ih1 _ _ _ _ _ _ _ _
      | exact cursor_Four.mono _ _
      | exact LeO.none _
      | refine LeO.ite ?_ ?_
      | refine LeO.bind ?_ (fun _ => ?_)
    · intro y0 y1 y2 y3 y4 y5 y6 y7
      unfold field_PrintStamp.j1
      repeat' first
      | (with_reducible exact ih0 _ _ _ _ _ _ _)
      | (with_reducible exact ih1 _ _ _ _ _ _ _ _)
      | (with_reducible exact cursor_Four.mono _ _)
      | (with_reducible exact LeO.refl _)
      | (with_reducible exact LeO.none _)
      | (with_reducible refine LeO.ite ?_ ?_)
      | (with_reducible refine LeO.bind ?_ (fun _ => ?_))
      | exact ih0 _ _ _ _ _ _ _
      | exact ih1 _ _ _ _ _ _ _ _
      | exact cursor_Four.mono _ _
      | exact LeO.none _
      | refine LeO.ite ?_ ?_
      | refine LeO.bind ?_ (fun _ => ?_)
theorem field_PrintStamp.mono : ∀ a0 a1 a2 a3 a4 k, LeO (field_PrintStamp.f k a0 a1 a2 a3 a4) (field_PrintStamp.f (k + 1) a0 a1 a2 a3 a4) := by
  intro a0 a1 a2 a3 a4 k
  obtain ⟨ih0, ih1⟩ := field_PrintStamp.mono_l k
  unfold field_PrintStamp.f
  repeat' first
      | (with_reducible exact ih0 _ _ _ _ _ _ _)
      | (with_reducible exact ih1 _ _ _ _ _ _ _ _)
      | (with_reducible exact cursor_Four.mono _ _)
      | (with_reducible exact LeO.refl _)
      | (with_reducible exact LeO.none _)
      | (with_reducible refine LeO.ite ?_ ?_)
      | (with_reducible refine LeO.bind ?_ (fun _ => ?_))
      | exact ih0 _ _ _ _ _ _ _
      | exact ih1 _ _ _ _ _ _ _ _
      | exact cursor_Four.mono _ _
      | exact LeO.none _
      | refine LeO.ite ?_ ?_
      | refine LeO.bind ?_ (fun _ => ?_)
set_option maxHeartbeats 8000000 in
set_option maxRecDepth 100000 in
theorem field_PrintStamp.calls (k : Nat) (a0_0 : Int) (a0_1 : Int) (a0_2 : Int) (a0_3 : Int) (a1 : Bool) (r : ByteArray) (w : World) (h : field_PrintStamp.f k a0_0 a0_1 a0_2 a0_3 a1 = some r) :
    Calls Tryd.prog 13 #[.agg #[.int .u8 a0_0, .int .i32 a0_1, .int .i32 a0_2, .int .i32 a0_3], .bool a1] w fun e w' => e = .returned (.string r) ∧ Below w.heap.size w w' := by
  have hu35 := Tryd.underlying35
  have HB := Aside0.mk (Below.refl w.heap.size w)
  have H : ((some (([Go.bits .and .u8 a0_0 7] : List Int) : List Int)).bind fun y224 => (if (Go.bits .and .u8 (Go.bits .and .u8 a0_0 7) 1) = 0 then (field_PrintStamp.j0 k a1 (Go.bits .and .u8 a0_0 7) (strOfNums y224) a0_0 a0_1 a0_2 a0_3) else ((cursor_Four.f k ((a0_1) % 4294967296)).bind fun t227 => (if (strOfNums y224).size + t227.size ≤ 9223372036854775807 then (field_PrintStamp.j0 k a1 (Go.bits .and .u8 a0_0 7) ((strOfNums y224) ++ t227) a0_0 a0_1 a0_2 a0_3) else (none))))) = some r := h
  clear h
  obtain ⟨y224, hy224⟩ : ∃ y_ : List Int, y_ = (([Go.bits .and .u8 a0_0 7] : List Int)) := ⟨_, rfl⟩
  replace H : (if (Go.bits .and .u8 (Go.bits .and .u8 a0_0 7) 1) = 0 then (field_PrintStamp.j0 k a1 (Go.bits .and .u8 a0_0 7) (strOfNums y224) a0_0 a0_1 a0_2 a0_3) else ((cursor_Four.f k ((a0_1) % 4294967296)).bind fun t227 => (if (strOfNums y224).size + t227.size ≤ 9223372036854775807 then (field_PrintStamp.j0 k a1 (Go.bits .and .u8 a0_0 7) ((strOfNums y224) ++ t227) a0_0 a0_1 a0_2 a0_3) else (none)))) = some r := by first | (rw [hy224]; with_reducible exact H) | (have H2_ := (Option.bind_some _ _).symm.trans H; rw [hy224]; with_reducible exact H2_) | (have H2_ := (Option.bind_some _ _).symm.trans H; with_reducible exact H2_) | with_reducible exact H | (rw [hy224]; exact H) | exact H
  have Ny224 := Aside0.mk hy224
  clear hy224
  have HC3 := Aside0.mk H
  clear H
  go_enter Tryd.func13, Tryd.ntmps13
  go_upto_if 15 with (first | ((with_reducible refine gate_dst (N := 2) rfl ?_); refine box_event ?hg (N := 2) ?hd (cs := #[.int .u8 a0_0, .int .i32 a0_1, .int .i32 a0_2, .int .i32 a0_3]) (t := 35) ?hr ?_; (case hd => rfl); (case hg => rfl); (case hr => first | (go_simp; done) | (go_simp; rfl)); intro gb223 hg w4 hbox hb; have n0_ := Aside0.mk (below_step (by repeat (first | (with_reducible first | exact HB.out | apply below_alloc | apply pw_below_drewN | apply below_drew1) | exact HB.out)) hb); have n1_ := Aside0.mk (hbox); have n2_ := Aside0.mk ((by rw [hg]; exact (below_size (by repeat (first | (with_reducible first | exact HB.out | apply below_alloc | apply pw_below_drewN | apply below_drew1) | exact HB.out))) : w.heap.size ≤ gb223)); have n3_ := Aside0.mk ((by rw [hg]; exact (below_size (by repeat (first | (with_reducible first | exact HB.out | apply below_alloc | apply pw_below_drewN | apply below_drew1) | exact HB.out))) : w.heap.size ≤ gb223)); clear HB; have HB := n0_; have BK223 := n1_; have GW223 := n2_; have GE223 := n3_; clear n0_ n1_ n2_ n3_; clear hb hbox hg; have hcz5_0 : w4.cell? ⟨gb223, 0, none⟩ = some (.int .u8 a0_0) := (blk_cell BK223.out 0).trans rfl; have hcz5_1 : w4.cell? ⟨gb223, 1, none⟩ = some (.int .i32 a0_1) := (blk_cell BK223.out 1).trans rfl; have hcz5_2 : w4.cell? ⟨gb223, 2, none⟩ = some (.int .i32 a0_2) := (blk_cell BK223.out 2).trans rfl; have hcz5_3 : w4.cell? ⟨gb223, 3, none⟩ = some (.int .i32 a0_3) := (blk_cell BK223.out 3).trans rfl; have hfz5_0 := blk_frozen BK223.out 0; have hfz5_1 := blk_frozen BK223.out 1; have hfz5_2 := blk_frozen BK223.out 2; have hfz5_3 := blk_frozen BK223.out 3) | ((with_reducible refine gate_dst (N := 11) rfl ?_); refine Kd.R_lit (Kd.int .u8) _ 5 ?hg (N := 11) ?hd (xs := ([Go.bits .and .u8 a0_0 7] : List Int)) (inner := [.int .u8 (Go.bits .and .u8 a0_0 7)]) (ok := fun _ => True) (okp := fun _ => True) ?hr ?hp (fun _ hk => hk) trivial (Below.refl _ _) (Nat.le_refl _) (by simp) ?_; (case hd => rfl); (case hg => rfl); (case hr => first | (go_simp; done) | (go_simp; rfl)); (case hp => exact (Reps.one (show Kd.M (Kd.int .u8) _ _ _ (Go.bits .and .u8 a0_0 7) [.int .u8 (Go.bits .and .u8 a0_0 7)] from rfl) (Reps.none _ _))); intro v225 w6 ho7 hb hg_ hnew_; clear hg_ hnew_; (first | rw [← Ny224.out] at ho7 | (simp only [Int.reduceToNat] at ho7; rw [← Ny224.out] at ho7)); have n0_ := Aside0.mk (Kd.R_lower ho7 (below_size (by repeat (first | (with_reducible first | exact HB.out | apply below_alloc | apply pw_below_drewN | apply below_drew1 | refine below_set ?_ GE223.out) | exact HB.out)))); have n1_ := Aside0.mk (blk_below (g := gb223) (o := .cells #[.int .u8 a0_0, .int .i32 a0_1, .int .i32 a0_2, .int .i32 a0_3] 35 (0, 0)) (by (with_reducible repeat (first | refine blk_drewN ?_ _ | refine blk_drew ?_ | refine blk_alloc ?_ _)); exact BK223.out) hb); have n2_ := Aside0.mk (below_step (by repeat (first | (with_reducible first | exact HB.out | apply below_alloc | apply pw_below_drewN | apply below_drew1 | refine below_set ?_ GE223.out) | exact HB.out)) hb); clear BK223; clear HB; have HO226 := n0_; have BK223 := n1_; have HB := n2_; clear n0_ n1_ n2_; clear hb ho7; have hcv8 := own_string (P := Tryd.prog) Tryd.underlying65 Tryd.underlying5 Tryd.underlying9 (Kd.own_of_R HO226.out)))
  (try simp only [Act.put, List.setIfInBounds_toArray, List.set_cons_zero, List.set_cons_succ])
  go_cut [6] (fun v6 wc => ∃ (kq : Nat) (x6_2 : ByteArray), v6 = .string x6_2 ∧ Aside0 (field_PrintStamp.j0 kq a1 (Go.bits .and .u8 a0_0 7) x6_2 a0_0 a0_1 a0_2 a0_3 = some r) ∧ Aside0 (kq ≤ k) ∧ Aside0 (wc.heap[gb223]? = some (.cells #[.int .u8 a0_0, .int .i32 a0_1, .int .i32 a0_2, .int .i32 a0_3] 35 (0, 0))) ∧ Aside0 (Below w.heap.size w wc))
  case first =>
    have H := HC3.out
    clear HC3
    by_cases c9 : (Go.bits .and .u8 (Go.bits .and .u8 a0_0 7) 1) = 0
    · rw [if_pos c9] at H
      have c9b0 : ((Go.bits .and .u8 (Go.bits .and .u8 a0_0 7) 1) == 0) = true := beq_iff_eq.mpr c9
      have c9b1 : ((Go.bits .and .u8 (Go.bits .and .u8 a0_0 7) 1) != 0) = false := bne_eq_false_iff_eq.mpr c9
      clear c9
      (first | rw [c9b0] | (simp only [i64_w, i32_w]; rw [c9b0]) | skip)
      have H' := Aside0.mk H
      clear H
      go_wp2
      go_meet
      case rel => exact ⟨_, (strOfNums y224), (by first | rfl | (simp; done) | (simp [*]; done)), H', ⟨by first | omega | exact Nat.le_refl _⟩, ⟨by (with_reducible repeat (first | refine blk_drewN ?_ _ | refine blk_drew ?_ | refine blk_alloc ?_ _)); exact BK223.out⟩, ⟨by repeat (first | (with_reducible first | exact HB.out | apply below_alloc | apply pw_below_drewN | apply below_drew1 | refine below_set ?_ GE223.out) | exact HB.out)⟩⟩
    · rw [if_neg c9] at H
      have c9b0 : ((Go.bits .and .u8 (Go.bits .and .u8 a0_0 7) 1) == 0) = false := beq_eq_false_iff_ne.mpr c9
      have c9b1 : ((Go.bits .and .u8 (Go.bits .and .u8 a0_0 7) 1) != 0) = true := bne_iff_ne.mpr c9
      (first | rw [c9b0] | (simp only [i64_w, i32_w]; rw [c9b0]) | skip)
      replace H := Option.bind_eq_some_iff.mp H
      obtain ⟨t227, A100, H⟩ := H
      replace H : (if (strOfNums y224).size + t227.size ≤ 9223372036854775807 then (field_PrintStamp.j0 k a1 (Go.bits .and .u8 a0_0 7) ((strOfNums y224) ++ t227) a0_0 a0_1 a0_2 a0_3) else (none)) = some r := H
      have A10 := Aside0.mk A100
      clear A100
      by_cases c11 : (strOfNums y224).size + t227.size ≤ 9223372036854775807
      · rw [if_pos c11] at H
        have c11b0 := eq_true c11
        have c11b1 : decide ((strOfNums y224).size + t227.size ≤ 9223372036854775807) = true := decide_eq_true c11
        try have c11b2 : (9223372036854775807 < (strOfNums y224).size + t227.size) = False := eq_false (Nat.not_lt.2 c11)
        have H' := Aside0.mk H
        clear H
        have hcz12_0 : w6.cell? ⟨gb223, 0, none⟩ = some (.int .u8 a0_0) := (blk_cell BK223.out 0).trans rfl
        have hcz12_1 : w6.cell? ⟨gb223, 1, none⟩ = some (.int .i32 a0_1) := (blk_cell BK223.out 1).trans rfl
        have hcz12_2 : w6.cell? ⟨gb223, 2, none⟩ = some (.int .i32 a0_2) := (blk_cell BK223.out 2).trans rfl
        have hcz12_3 : w6.cell? ⟨gb223, 3, none⟩ = some (.int .i32 a0_3) := (blk_cell BK223.out 3).trans rfl
        have hfz12_0 := blk_frozen BK223.out 0
        have hfz12_1 := blk_frozen BK223.out 1
        have hfz12_2 := blk_frozen BK223.out 2
        have hfz12_3 := blk_frozen BK223.out 3
        go_wp2_with (first | ((with_reducible refine gate_callee (f := 27) rfl ?_); refine goesL_ (some 20) rfl rfl Tryd.func27 (by kernel_rfl) rfl #[.int .u32 ((a0_1) % 4294967296)] rfl (by (try simp only [List.map_toArray, List.map_cons, List.map_nil]); first | done | rfl | (simp only [List.length_drop, List.length_take]; rfl)) ?_; (with_reducible refine (cursor_Four.calls k ((a0_1) % 4294967296) t227 _ A10.out).mono ?_); rintro e w13 ⟨rfl, hb⟩; refine ⟨_, rfl, ?_⟩; have n0_ := Aside0.mk (Kd.R_below (by (with_reducible repeat (first | apply Kd.R_alloc | apply Kd.R_drewN | apply Kd.R_drew)); exact HO226.out) hb); have n1_ := Aside0.mk (blk_below (g := gb223) (o := .cells #[.int .u8 a0_0, .int .i32 a0_1, .int .i32 a0_2, .int .i32 a0_3] 35 (0, 0)) (by (with_reducible repeat (first | refine blk_drewN ?_ _ | refine blk_drew ?_ | refine blk_alloc ?_ _)); exact BK223.out) hb); have n2_ := Aside0.mk (below_step (by repeat (first | (with_reducible first | exact HB.out | apply below_alloc | apply pw_below_drewN | apply below_drew1 | refine below_set ?_ GE223.out) | exact HB.out)) hb); clear HO226; clear BK223; clear HB; have HO226 := n0_; have BK223 := n1_; have HB := n2_; clear n0_ n1_ n2_; (try clear hb); (try clear hb2); (try clear hk); (try clear hi)))
        go_meet
        case rel => exact ⟨_, ((strOfNums y224) ++ t227), (by first | rfl | (simp; done) | (simp [*]; done)), H', ⟨by first | omega | exact Nat.le_refl _⟩, ⟨by (with_reducible repeat (first | refine blk_drewN ?_ _ | refine blk_drew ?_ | refine blk_alloc ?_ _)); exact BK223.out⟩, ⟨by repeat (first | (with_reducible first | exact HB.out | apply below_alloc | apply pw_below_drewN | apply below_drew1 | refine below_set ?_ GE223.out) | exact HB.out)⟩⟩
      · rw [if_neg c11] at H
        exact absurd H (by simp)
  case rest =>
    clear HC3
    try clear c1
    try clear c2
    try clear p2
    try clear hcv8
    try clear c9
    try clear c9b0
    try clear c9b1
    try clear c11
    try clear c11b0
    try clear c11b1
    try clear c11b2
    try clear c13
    try clear hcz12_0
    try clear hcz12_1
    try clear hcz12_2
    try clear hcz12_3
    try clear hcz5_0
    try clear hcz5_1
    try clear hcz5_2
    try clear hcz5_3
    try clear hfz12_0
    try clear hfz12_1
    try clear hfz12_2
    try clear hfz12_3
    try clear hfz5_0
    try clear hfz5_1
    try clear hfz5_2
    try clear hfz5_3
    obtain ⟨kq, x6_2, rfl, HA, HJ2, BK223, HB⟩ := hcut
    cases kq with
    | zero => exact absurd HA.out (by simp [field_PrintStamp.j0])
    | succ kj2 =>
      have H := HA.out
      clear HA
      simp only [field_PrintStamp.j0] at H
      have HC14 := Aside0.mk H
      clear H
      go_upto_region 5 with (fail)
      go_cut [28] (fun v28 wc => ∃ (kq : Nat) (x28_13 : Bool), v28 = .bool x28_13 ∧ Aside0 (field_PrintStamp.j1 kq a1 (Go.bits .and .u8 a0_0 7) x6_2 x28_13 a0_0 a0_1 a0_2 a0_3 = some r) ∧ Aside0 (kq ≤ kj2) ∧ Aside0 (wc.heap[gb223]? = some (.cells #[.int .u8 a0_0, .int .i32 a0_1, .int .i32 a0_2, .int .i32 a0_3] 35 (0, 0))) ∧ Aside0 (Below w.heap.size w wc))
      case first =>
        have H := HC14.out
        clear HC14
        by_cases c15 : (Go.bits .and .u8 (Go.bits .and .u8 a0_0 7) 2) = 0
        · rw [if_pos c15] at H
          have c15b0 : ((Go.bits .and .u8 (Go.bits .and .u8 a0_0 7) 2) == 0) = true := beq_iff_eq.mpr c15
          have c15b1 : ((Go.bits .and .u8 (Go.bits .and .u8 a0_0 7) 2) != 0) = false := bne_eq_false_iff_eq.mpr c15
          clear c15
          (first | rw [c15b0] | (simp only [i64_w, i32_w]; rw [c15b0]) | skip)
          have H' := Aside0.mk H
          clear H
          go_wp2
          go_meet
          case rel => exact ⟨_, (false), (by first | rfl | (simp; done) | (simp [*]; done)), H', ⟨by have := HJ2.out; first | omega | exact Nat.le_refl _⟩, ⟨by (with_reducible repeat (first | refine blk_drewN ?_ _ | refine blk_drew ?_ | refine blk_alloc ?_ _)); exact BK223.out⟩, ⟨by repeat (first | (with_reducible first | exact HB.out | apply below_alloc | apply pw_below_drewN | apply below_drew1 | refine below_set ?_ GE223.out) | exact HB.out)⟩⟩
        · rw [if_neg c15] at H
          have c15b0 : ((Go.bits .and .u8 (Go.bits .and .u8 a0_0 7) 2) == 0) = false := beq_eq_false_iff_ne.mpr c15
          have c15b1 : ((Go.bits .and .u8 (Go.bits .and .u8 a0_0 7) 2) != 0) = true := bne_iff_ne.mpr c15
          (first | rw [c15b0] | (simp only [i64_w, i32_w]; rw [c15b0]) | skip)
          have H' := Aside0.mk H
          clear H
          go_wp2
          go_meet
          case rel => exact ⟨_, (!a1), (by first | rfl | (simp; done) | (simp [*]; done)), H', ⟨by have := HJ2.out; first | omega | exact Nat.le_refl _⟩, ⟨by (with_reducible repeat (first | refine blk_drewN ?_ _ | refine blk_drew ?_ | refine blk_alloc ?_ _)); exact BK223.out⟩, ⟨by repeat (first | (with_reducible first | exact HB.out | apply below_alloc | apply pw_below_drewN | apply below_drew1 | refine below_set ?_ GE223.out) | exact HB.out)⟩⟩
      case rest =>
        clear HC14
        try clear c1
        try clear c2
        try clear p2
        try clear hcv8
        try clear c9
        try clear c9b0
        try clear c9b1
        try clear c11
        try clear c11b0
        try clear c11b1
        try clear c11b2
        try clear c13
        try clear c15
        try clear c15b0
        try clear c15b1
        try clear hcz12_0
        try clear hcz12_1
        try clear hcz12_2
        try clear hcz12_3
        try clear hcz5_0
        try clear hcz5_1
        try clear hcz5_2
        try clear hcz5_3
        try clear hfz12_0
        try clear hfz12_1
        try clear hfz12_2
        try clear hfz12_3
        try clear hfz5_0
        try clear hfz5_1
        try clear hfz5_2
        try clear hfz5_3
        try clear p2
        obtain ⟨kq, x28_13, rfl, HA, HJ13, BK223, HB⟩ := hcut
        cases kq with
        | zero => exact absurd HA.out (by simp [field_PrintStamp.j1])
        | succ kj13 =>
          have H := HA.out
          clear HA
          simp only [field_PrintStamp.j1] at H
          by_cases c16 : x28_13 = true
          · subst c16
            have H1 : ((cursor_Four.f kj13 ((a0_2) % 4294967296)).bind fun t228 => (if x6_2.size + t228.size ≤ 9223372036854775807 then (if (Go.bits .and .u8 (Go.bits .and .u8 a0_0 7) 4) = 0 then (some (x6_2 ++ t228)) else (if a1 = true then (some (x6_2 ++ t228)) else ((cursor_Four.f kj13 ((a0_3) % 4294967296)).bind fun t229 => (if x6_2.size + t228.size + t229.size ≤ 9223372036854775807 then (some ((x6_2 ++ t228) ++ t229)) else (none))))) else (none))) = some r := by rw [if_pos rfl] at H; exact H
            clear H
            have H := H1
            clear H1
            replace H := Option.bind_eq_some_iff.mp H
            obtain ⟨t228, A170, H⟩ := H
            replace H : (if x6_2.size + t228.size ≤ 9223372036854775807 then (if (Go.bits .and .u8 (Go.bits .and .u8 a0_0 7) 4) = 0 then (some (x6_2 ++ t228)) else (if a1 = true then (some (x6_2 ++ t228)) else ((cursor_Four.f kj13 ((a0_3) % 4294967296)).bind fun t229 => (if x6_2.size + t228.size + t229.size ≤ 9223372036854775807 then (some ((x6_2 ++ t228) ++ t229)) else (none))))) else (none)) = some r := H
            have A17 := Aside0.mk A170
            clear A170
            by_cases c18 : x6_2.size + t228.size ≤ 9223372036854775807
            · rw [if_pos c18] at H
              have c18b0 := eq_true c18
              have c18b1 : decide (x6_2.size + t228.size ≤ 9223372036854775807) = true := decide_eq_true c18
              try have c18b2 : (9223372036854775807 < x6_2.size + t228.size) = False := eq_false (Nat.not_lt.2 c18)
              by_cases c19 : (Go.bits .and .u8 (Go.bits .and .u8 a0_0 7) 4) = 0
              · rw [if_pos c19] at H
                have c19b0 : ((Go.bits .and .u8 (Go.bits .and .u8 a0_0 7) 4) == 0) = true := beq_iff_eq.mpr c19
                have c19b1 : ((Go.bits .and .u8 (Go.bits .and .u8 a0_0 7) 4) != 0) = false := bne_eq_false_iff_eq.mpr c19
                clear c19
                obtain rfl := Option.some.inj H
                have hcz20_0 : wc.cell? ⟨gb223, 0, none⟩ = some (.int .u8 a0_0) := (blk_cell BK223.out 0).trans rfl
                have hcz20_1 : wc.cell? ⟨gb223, 1, none⟩ = some (.int .i32 a0_1) := (blk_cell BK223.out 1).trans rfl
                have hcz20_2 : wc.cell? ⟨gb223, 2, none⟩ = some (.int .i32 a0_2) := (blk_cell BK223.out 2).trans rfl
                have hcz20_3 : wc.cell? ⟨gb223, 3, none⟩ = some (.int .i32 a0_3) := (blk_cell BK223.out 3).trans rfl
                have hfz20_0 := blk_frozen BK223.out 0
                have hfz20_1 := blk_frozen BK223.out 1
                have hfz20_2 := blk_frozen BK223.out 2
                have hfz20_3 := blk_frozen BK223.out 3
                go_wp2_with (first | ((with_reducible refine gate_callee (f := 27) rfl ?_); refine goesL_ (some 33) rfl rfl Tryd.func27 (by kernel_rfl) rfl #[.int .u32 ((a0_2) % 4294967296)] rfl (by (try simp only [List.map_toArray, List.map_cons, List.map_nil]); first | done | rfl | (simp only [List.length_drop, List.length_take]; rfl)) ?_; (with_reducible refine (cursor_Four.calls kj13 ((a0_2) % 4294967296) t228 _ A17.out).mono ?_); rintro e w21 ⟨rfl, hb⟩; refine ⟨_, rfl, ?_⟩; have n0_ := Aside0.mk (blk_below (g := gb223) (o := .cells #[.int .u8 a0_0, .int .i32 a0_1, .int .i32 a0_2, .int .i32 a0_3] 35 (0, 0)) (by (with_reducible repeat (first | refine blk_drewN ?_ _ | refine blk_drew ?_ | refine blk_alloc ?_ _)); exact BK223.out) hb); have n1_ := Aside0.mk (below_step (by repeat (first | (with_reducible first | exact HB.out | apply below_alloc | apply pw_below_drewN | apply below_drew1 | refine below_set ?_ GE223.out) | exact HB.out)) hb); clear BK223; clear HB; have BK223 := n0_; have HB := n1_; clear n0_ n1_; (try clear hb); (try clear hb2); (try clear hk); (try clear hi)))
                go_ret
                exact ⟨by first | rfl | (simp [errW_none, errW_some] <;> rfl) | (simp [*, errW_none, errW_some] <;> rfl), by repeat (first | (with_reducible first | exact HB.out | apply below_alloc | apply pw_below_drewN | apply below_drew1 | refine below_set ?_ GE223.out) | exact HB.out)⟩
              · rw [if_neg c19] at H
                have c19b0 : ((Go.bits .and .u8 (Go.bits .and .u8 a0_0 7) 4) == 0) = false := beq_eq_false_iff_ne.mpr c19
                have c19b1 : ((Go.bits .and .u8 (Go.bits .and .u8 a0_0 7) 4) != 0) = true := bne_iff_ne.mpr c19
                by_cases c22 : a1 = true
                · subst c22
                  have H1 : (some (x6_2 ++ t228)) = some r := by rw [if_pos rfl] at H; exact H
                  clear H
                  have H := H1
                  clear H1
                  obtain rfl := Option.some.inj H
                  have hcz23_0 : wc.cell? ⟨gb223, 0, none⟩ = some (.int .u8 a0_0) := (blk_cell BK223.out 0).trans rfl
                  have hcz23_1 : wc.cell? ⟨gb223, 1, none⟩ = some (.int .i32 a0_1) := (blk_cell BK223.out 1).trans rfl
                  have hcz23_2 : wc.cell? ⟨gb223, 2, none⟩ = some (.int .i32 a0_2) := (blk_cell BK223.out 2).trans rfl
                  have hcz23_3 : wc.cell? ⟨gb223, 3, none⟩ = some (.int .i32 a0_3) := (blk_cell BK223.out 3).trans rfl
                  have hfz23_0 := blk_frozen BK223.out 0
                  have hfz23_1 := blk_frozen BK223.out 1
                  have hfz23_2 := blk_frozen BK223.out 2
                  have hfz23_3 := blk_frozen BK223.out 3
                  go_wp2_with (first | ((with_reducible refine gate_callee (f := 27) rfl ?_); refine goesL_ (some 33) rfl rfl Tryd.func27 (by kernel_rfl) rfl #[.int .u32 ((a0_2) % 4294967296)] rfl (by (try simp only [List.map_toArray, List.map_cons, List.map_nil]); first | done | rfl | (simp only [List.length_drop, List.length_take]; rfl)) ?_; (with_reducible refine (cursor_Four.calls kj13 ((a0_2) % 4294967296) t228 _ A17.out).mono ?_); rintro e w24 ⟨rfl, hb⟩; refine ⟨_, rfl, ?_⟩; have n0_ := Aside0.mk (blk_below (g := gb223) (o := .cells #[.int .u8 a0_0, .int .i32 a0_1, .int .i32 a0_2, .int .i32 a0_3] 35 (0, 0)) (by (with_reducible repeat (first | refine blk_drewN ?_ _ | refine blk_drew ?_ | refine blk_alloc ?_ _)); exact BK223.out) hb); have n1_ := Aside0.mk (below_step (by repeat (first | (with_reducible first | exact HB.out | apply below_alloc | apply pw_below_drewN | apply below_drew1 | refine below_set ?_ GE223.out) | exact HB.out)) hb); clear BK223; clear HB; have BK223 := n0_; have HB := n1_; clear n0_ n1_; (try clear hb); (try clear hb2); (try clear hk); (try clear hi)))
                  go_ret
                  exact ⟨by first | rfl | (simp [errW_none, errW_some] <;> rfl) | (simp [*, errW_none, errW_some] <;> rfl), by repeat (first | (with_reducible first | exact HB.out | apply below_alloc | apply pw_below_drewN | apply below_drew1 | refine below_set ?_ GE223.out) | exact HB.out)⟩
                · replace c22 := Bool.eq_false_iff.mpr c22
                  subst c22
                  have H1 : ((cursor_Four.f kj13 ((a0_3) % 4294967296)).bind fun t229 => (if x6_2.size + t228.size + t229.size ≤ 9223372036854775807 then (some ((x6_2 ++ t228) ++ t229)) else (none))) = some r := by rw [if_neg (show ¬ (false = true) by decide)] at H; exact H
                  clear H
                  have H := H1
                  clear H1
                  replace H := Option.bind_eq_some_iff.mp H
                  obtain ⟨t229, A250, H⟩ := H
                  replace H : (if x6_2.size + t228.size + t229.size ≤ 9223372036854775807 then (some ((x6_2 ++ t228) ++ t229)) else (none)) = some r := H
                  have A25 := Aside0.mk A250
                  clear A250
                  by_cases c26 : x6_2.size + t228.size + t229.size ≤ 9223372036854775807
                  · rw [if_pos c26] at H
                    have c26b0 := eq_true c26
                    have c26b1 : decide (x6_2.size + t228.size + t229.size ≤ 9223372036854775807) = true := decide_eq_true c26
                    try have c26b2 : (9223372036854775807 < x6_2.size + t228.size + t229.size) = False := eq_false (Nat.not_lt.2 c26)
                    obtain rfl := Option.some.inj H
                    have hcz27_0 : wc.cell? ⟨gb223, 0, none⟩ = some (.int .u8 a0_0) := (blk_cell BK223.out 0).trans rfl
                    have hcz27_1 : wc.cell? ⟨gb223, 1, none⟩ = some (.int .i32 a0_1) := (blk_cell BK223.out 1).trans rfl
                    have hcz27_2 : wc.cell? ⟨gb223, 2, none⟩ = some (.int .i32 a0_2) := (blk_cell BK223.out 2).trans rfl
                    have hcz27_3 : wc.cell? ⟨gb223, 3, none⟩ = some (.int .i32 a0_3) := (blk_cell BK223.out 3).trans rfl
                    have hfz27_0 := blk_frozen BK223.out 0
                    have hfz27_1 := blk_frozen BK223.out 1
                    have hfz27_2 := blk_frozen BK223.out 2
                    have hfz27_3 := blk_frozen BK223.out 3
                    go_wp2_with (first | ((with_reducible refine gate_callee (f := 27) rfl ?_); refine goesL_ (some 33) rfl rfl Tryd.func27 (by kernel_rfl) rfl #[.int .u32 ((a0_2) % 4294967296)] rfl (by (try simp only [List.map_toArray, List.map_cons, List.map_nil]); first | done | rfl | (simp only [List.length_drop, List.length_take]; rfl)) ?_; (with_reducible refine (cursor_Four.calls kj13 ((a0_2) % 4294967296) t228 _ A17.out).mono ?_); rintro e w28 ⟨rfl, hb⟩; refine ⟨_, rfl, ?_⟩; have n0_ := Aside0.mk (blk_below (g := gb223) (o := .cells #[.int .u8 a0_0, .int .i32 a0_1, .int .i32 a0_2, .int .i32 a0_3] 35 (0, 0)) (by (with_reducible repeat (first | refine blk_drewN ?_ _ | refine blk_drew ?_ | refine blk_alloc ?_ _)); exact BK223.out) hb); have n1_ := Aside0.mk (below_step (by repeat (first | (with_reducible first | exact HB.out | apply below_alloc | apply pw_below_drewN | apply below_drew1 | refine below_set ?_ GE223.out) | exact HB.out)) hb); clear BK223; clear HB; have BK223 := n0_; have HB := n1_; clear n0_ n1_; (try clear hb); (try clear hb2); (try clear hk); (try clear hi); have hcz29_0 : w28.cell? ⟨gb223, 0, none⟩ = some (.int .u8 a0_0) := (blk_cell BK223.out 0).trans rfl; have hcz29_1 : w28.cell? ⟨gb223, 1, none⟩ = some (.int .i32 a0_1) := (blk_cell BK223.out 1).trans rfl; have hcz29_2 : w28.cell? ⟨gb223, 2, none⟩ = some (.int .i32 a0_2) := (blk_cell BK223.out 2).trans rfl; have hcz29_3 : w28.cell? ⟨gb223, 3, none⟩ = some (.int .i32 a0_3) := (blk_cell BK223.out 3).trans rfl; have hfz29_0 := blk_frozen BK223.out 0; have hfz29_1 := blk_frozen BK223.out 1; have hfz29_2 := blk_frozen BK223.out 2; have hfz29_3 := blk_frozen BK223.out 3) | ((with_reducible refine gate_callee (f := 27) rfl ?_); refine goesL_ (some 46) rfl rfl Tryd.func27 (by kernel_rfl) rfl #[.int .u32 ((a0_3) % 4294967296)] rfl (by (try simp only [List.map_toArray, List.map_cons, List.map_nil]); first | done | rfl | (simp only [List.length_drop, List.length_take]; rfl)) ?_; (with_reducible refine (cursor_Four.calls kj13 ((a0_3) % 4294967296) t229 _ A25.out).mono ?_); rintro e w30 ⟨rfl, hb⟩; refine ⟨_, rfl, ?_⟩; have n0_ := Aside0.mk (blk_below (g := gb223) (o := .cells #[.int .u8 a0_0, .int .i32 a0_1, .int .i32 a0_2, .int .i32 a0_3] 35 (0, 0)) (by (with_reducible repeat (first | refine blk_drewN ?_ _ | refine blk_drew ?_ | refine blk_alloc ?_ _)); exact BK223.out) hb); have n1_ := Aside0.mk (below_step (by repeat (first | (with_reducible first | exact HB.out | apply below_alloc | apply pw_below_drewN | apply below_drew1 | refine below_set ?_ GE223.out) | exact HB.out)) hb); clear BK223; clear HB; have BK223 := n0_; have HB := n1_; clear n0_ n1_; (try clear hb); (try clear hb2); (try clear hk); (try clear hi)))
                    go_ret
                    exact ⟨by first | rfl | (simp [errW_none, errW_some] <;> rfl) | (simp [*, errW_none, errW_some] <;> rfl), by repeat (first | (with_reducible first | exact HB.out | apply below_alloc | apply pw_below_drewN | apply below_drew1 | refine below_set ?_ GE223.out) | exact HB.out)⟩
                  · rw [if_neg c26] at H
                    exact absurd H (by simp)
            · rw [if_neg c18] at H
              exact absurd H (by simp)
          · replace c16 := Bool.eq_false_iff.mpr c16
            subst c16
            have H1 : (if (Go.bits .and .u8 (Go.bits .and .u8 a0_0 7) 4) = 0 then (some x6_2) else (if a1 = true then (some x6_2) else ((cursor_Four.f kj13 ((a0_3) % 4294967296)).bind fun t230 => (if x6_2.size + t230.size ≤ 9223372036854775807 then (some (x6_2 ++ t230)) else (none))))) = some r := by rw [if_neg (show ¬ (false = true) by decide)] at H; exact H
            clear H
            have H := H1
            clear H1
            by_cases c31 : (Go.bits .and .u8 (Go.bits .and .u8 a0_0 7) 4) = 0
            · rw [if_pos c31] at H
              have c31b0 : ((Go.bits .and .u8 (Go.bits .and .u8 a0_0 7) 4) == 0) = true := beq_iff_eq.mpr c31
              have c31b1 : ((Go.bits .and .u8 (Go.bits .and .u8 a0_0 7) 4) != 0) = false := bne_eq_false_iff_eq.mpr c31
              clear c31
              obtain rfl := Option.some.inj H
              go_wp2
              go_ret
              exact ⟨by first | rfl | (simp [errW_none, errW_some] <;> rfl) | (simp [*, errW_none, errW_some] <;> rfl), by repeat (first | (with_reducible first | exact HB.out | apply below_alloc | apply pw_below_drewN | apply below_drew1 | refine below_set ?_ GE223.out) | exact HB.out)⟩
            · rw [if_neg c31] at H
              have c31b0 : ((Go.bits .and .u8 (Go.bits .and .u8 a0_0 7) 4) == 0) = false := beq_eq_false_iff_ne.mpr c31
              have c31b1 : ((Go.bits .and .u8 (Go.bits .and .u8 a0_0 7) 4) != 0) = true := bne_iff_ne.mpr c31
              by_cases c32 : a1 = true
              · subst c32
                have H1 : (some x6_2) = some r := by rw [if_pos rfl] at H; exact H
                clear H
                have H := H1
                clear H1
                obtain rfl := Option.some.inj H
                go_wp2
                go_ret
                exact ⟨by first | rfl | (simp [errW_none, errW_some] <;> rfl) | (simp [*, errW_none, errW_some] <;> rfl), by repeat (first | (with_reducible first | exact HB.out | apply below_alloc | apply pw_below_drewN | apply below_drew1 | refine below_set ?_ GE223.out) | exact HB.out)⟩
              · replace c32 := Bool.eq_false_iff.mpr c32
                subst c32
                have H1 : ((cursor_Four.f kj13 ((a0_3) % 4294967296)).bind fun t230 => (if x6_2.size + t230.size ≤ 9223372036854775807 then (some (x6_2 ++ t230)) else (none))) = some r := by rw [if_neg (show ¬ (false = true) by decide)] at H; exact H
                clear H
                have H := H1
                clear H1
                replace H := Option.bind_eq_some_iff.mp H
                obtain ⟨t230, A330, H⟩ := H
                replace H : (if x6_2.size + t230.size ≤ 9223372036854775807 then (some (x6_2 ++ t230)) else (none)) = some r := H
                have A33 := Aside0.mk A330
                clear A330
                by_cases c34 : x6_2.size + t230.size ≤ 9223372036854775807
                · rw [if_pos c34] at H
                  have c34b0 := eq_true c34
                  have c34b1 : decide (x6_2.size + t230.size ≤ 9223372036854775807) = true := decide_eq_true c34
                  try have c34b2 : (9223372036854775807 < x6_2.size + t230.size) = False := eq_false (Nat.not_lt.2 c34)
                  obtain rfl := Option.some.inj H
                  have hcz35_0 : wc.cell? ⟨gb223, 0, none⟩ = some (.int .u8 a0_0) := (blk_cell BK223.out 0).trans rfl
                  have hcz35_1 : wc.cell? ⟨gb223, 1, none⟩ = some (.int .i32 a0_1) := (blk_cell BK223.out 1).trans rfl
                  have hcz35_2 : wc.cell? ⟨gb223, 2, none⟩ = some (.int .i32 a0_2) := (blk_cell BK223.out 2).trans rfl
                  have hcz35_3 : wc.cell? ⟨gb223, 3, none⟩ = some (.int .i32 a0_3) := (blk_cell BK223.out 3).trans rfl
                  have hfz35_0 := blk_frozen BK223.out 0
                  have hfz35_1 := blk_frozen BK223.out 1
                  have hfz35_2 := blk_frozen BK223.out 2
                  have hfz35_3 := blk_frozen BK223.out 3
                  go_wp2_with (first | ((with_reducible refine gate_callee (f := 27) rfl ?_); refine goesL_ (some 46) rfl rfl Tryd.func27 (by kernel_rfl) rfl #[.int .u32 ((a0_3) % 4294967296)] rfl (by (try simp only [List.map_toArray, List.map_cons, List.map_nil]); first | done | rfl | (simp only [List.length_drop, List.length_take]; rfl)) ?_; (with_reducible refine (cursor_Four.calls kj13 ((a0_3) % 4294967296) t230 _ A33.out).mono ?_); rintro e w36 ⟨rfl, hb⟩; refine ⟨_, rfl, ?_⟩; have n0_ := Aside0.mk (blk_below (g := gb223) (o := .cells #[.int .u8 a0_0, .int .i32 a0_1, .int .i32 a0_2, .int .i32 a0_3] 35 (0, 0)) (by (with_reducible repeat (first | refine blk_drewN ?_ _ | refine blk_drew ?_ | refine blk_alloc ?_ _)); exact BK223.out) hb); have n1_ := Aside0.mk (below_step (by repeat (first | (with_reducible first | exact HB.out | apply below_alloc | apply pw_below_drewN | apply below_drew1 | refine below_set ?_ GE223.out) | exact HB.out)) hb); clear BK223; clear HB; have BK223 := n0_; have HB := n1_; clear n0_ n1_; (try clear hb); (try clear hb2); (try clear hk); (try clear hi)))
                  go_ret
                  exact ⟨by first | rfl | (simp [errW_none, errW_some] <;> rfl) | (simp [*, errW_none, errW_some] <;> rfl), by repeat (first | (with_reducible first | exact HB.out | apply below_alloc | apply pw_below_drewN | apply below_drew1 | refine below_set ?_ GE223.out) | exact HB.out)⟩
                · rw [if_neg c34] at H
                  exact absurd H (by simp)

end Go.Proofs.YtloojhhjljneeaaDoor.P
