/- Written by a program of this session (wip/print2: a patched copy of a printer), not by print.sh: Lean functions with the answers of the Go functions, and the proofs of that; no condition beside those that stand in each theorem. -/
import Derived.Test.YtloojhhjljneeaaDoorPx0
import Derived.Test.YtloojhhjljneeaaDoorPx1
import Derived.Test.YtloojhhjljneeaaDoorPx9
namespace Go.Proofs.YtloojhhjljneeaaDoor.P
open Go.RowKit Go.Proofs.YtloojhhjljneeaaDoorW.PrintWords Go.Proofs.YtloojhhjljneeaaDoorW.PrintLast Go.Proofs.YtloojhhjljneeaaDoorW.PrintMore
attribute [local go_sem] max2_int min2_int max_two min_two max_three min_three max_four min_four   -- for this text's walks alone
set_option linter.unusedVariables false
set_option linter.unusedSimpArgs false

/-! ### field_PrintWide: function 11 -/
mutual
def field_PrintWide.j0 : Nat → ByteArray → Int → Int → Int → Int → Bool → Bool → Bool → Bool → Option (ByteArray)
  | 0, _, _, _, _, _, _, _, _, _ => none
  | k + 1, x5, x187000, x187001, x187002, x187003, x188000, x188001, x188002, x188003 => if x188001 = true then ((cursor_Eight.f k x187001).bind fun t189 => (if x5.size + t189.size ≤ 9223372036854775807 then (field_PrintWide.j1 k (x5 ++ t189) x187000 x187001 x187002 x187003 x188000 x188001 x188002 x188003) else (none))) else (field_PrintWide.j1 k x5 x187000 x187001 x187002 x187003 x188000 x188001 x188002 x188003)
def field_PrintWide.j1 : Nat → ByteArray → Int → Int → Int → Int → Bool → Bool → Bool → Bool → Option (ByteArray)
  | 0, _, _, _, _, _, _, _, _, _ => none
  | k + 1, x5, x187000, x187001, x187002, x187003, x188000, x188001, x188002, x188003 => if x188002 = true then ((cursor_Eight.f k x187002).bind fun t190 => (if x5.size + t190.size ≤ 9223372036854775807 then (if x188003 = true then ((cursor_Four.f k x187003).bind fun t191 => (if x5.size + t190.size + t191.size ≤ 9223372036854775807 then (some ((x5 ++ t190) ++ t191)) else (none))) else (some (x5 ++ t190))) else (none))) else (if x188003 = true then ((cursor_Four.f k x187003).bind fun t192 => (if x5.size + t192.size ≤ 9223372036854775807 then (some (x5 ++ t192)) else (none))) else (some x5))
end
def field_PrintWide.f (k : Nat) (a0_0 : Int) (a0_1 : Int) (a0_2 : Int) (a0_3 : Int) (a1_0 : Bool) (a1_1 : Bool) (a1_2 : Bool) (a1_3 : Bool) : Option (ByteArray) := if a1_0 = true then ((cursor_Eight.f k a0_0).bind fun t188 => (if 0 + t188.size ≤ 9223372036854775807 then (field_PrintWide.j0 k ((⟨#[]⟩ : ByteArray) ++ t188) a0_0 a0_1 a0_2 a0_3 a1_0 a1_1 a1_2 a1_3) else (none))) else (field_PrintWide.j0 k (⟨#[]⟩ : ByteArray) a0_0 a0_1 a0_2 a0_3 a1_0 a1_1 a1_2 a1_3)
theorem field_PrintWide.mono_l : ∀ k, (∀ y0 y1 y2 y3 y4 y5 y6 y7 y8, LeO (field_PrintWide.j0 k y0 y1 y2 y3 y4 y5 y6 y7 y8) (field_PrintWide.j0 (k + 1) y0 y1 y2 y3 y4 y5 y6 y7 y8)) ∧ (∀ y0 y1 y2 y3 y4 y5 y6 y7 y8, LeO (field_PrintWide.j1 k y0 y1 y2 y3 y4 y5 y6 y7 y8) (field_PrintWide.j1 (k + 1) y0 y1 y2 y3 y4 y5 y6 y7 y8))
  | 0 => ⟨fun _ _ _ _ _ _ _ _ _ r h => by simp [field_PrintWide.j0] at h, fun _ _ _ _ _ _ _ _ _ r h => by simp [field_PrintWide.j1] at h⟩
  | k + 1 => by
    obtain ⟨ih0, ih1⟩ := field_PrintWide.mono_l k
    refine ⟨?_, ?_⟩
    · intro y0 y1 y2 y3 y4 y5 y6 y7 y8
      unfold field_PrintWide.j0
      repeat' first
      | (with_reducible exact ih0 _ _ _ _ _ _ _ _ _)
      | (with_reducible exact ih1 _ _ _ _ _ _ _ _ _)
      | (with_reducible exact cursor_Eight.mono _ _)
      | (with_reducible exact cursor_Four.mono _ _)
      | (with_reducible exact LeO.refl _)
      | (with_reducible exact LeO.none _)
      | (with_reducible refine LeO.ite ?_ ?_)
      | (with_reducible refine LeO.bind ?_ (fun _ => ?_))
      | exact ih0 _ _ _ _ _ _ _ _ _
      | exact ih1 _ _ _ _ _ _ _ _ _
      | exact cursor_Eight.mono _ _
      | exact cursor_Four.mono _ _
      | exact LeO.none _
      | refine LeO.ite ?_ ?_
      | refine LeO.bind ?_ (fun _ => ?_)
    · intro y0 y1 y2 y3 y4 y5 y6 y7 y8
      unfold field_PrintWide.j1
      repeat' first
      | (with_reducible exact ih0 _ _ _ _ _ _ _ _ _)
      | (with_reducible exact ih1 _ _ _ _ _ _ _ _ _)
      | (with_reducible exact cursor_Eight.mono _ _)
      | (with_reducible exact cursor_Four.mono _ _)
      | (with_reducible exact LeO.refl _)
      | (with_reducible exact LeO.none _)
      | (with_reducible refine LeO.ite ?_ ?_)
      | (with_reducible refine LeO.bind ?_ (fun _ => ?_))
      | exact ih0 _ _ _ _ _ _ _ _ _
      | exact ih1 _ _ _ _ _ _ _ _ _
      | exact cursor_Eight.mono _ _
      | exact cursor_Four.mono _ _
      | exact LeO.none _
      | refine LeO.ite ?_ ?_
      | refine LeO.bind ?_ (fun _ => ?_)
theorem field_PrintWide.mono : ∀ a0 a1 a2 a3 a4 a5 a6 a7 k, LeO (field_PrintWide.f k a0 a1 a2 a3 a4 a5 a6 a7) (field_PrintWide.f (k + 1) a0 a1 a2 a3 a4 a5 a6 a7) := by
  intro a0 a1 a2 a3 a4 a5 a6 a7 k
  obtain ⟨ih0, ih1⟩ := field_PrintWide.mono_l k
  unfold field_PrintWide.f
  repeat' first
      | (with_reducible exact ih0 _ _ _ _ _ _ _ _ _)
      | (with_reducible exact ih1 _ _ _ _ _ _ _ _ _)
      | (with_reducible exact cursor_Eight.mono _ _)
      | (with_reducible exact cursor_Four.mono _ _)
      | (with_reducible exact LeO.refl _)
      | (with_reducible exact LeO.none _)
      | (with_reducible refine LeO.ite ?_ ?_)
      | (with_reducible refine LeO.bind ?_ (fun _ => ?_))
      | exact ih0 _ _ _ _ _ _ _ _ _
      | exact ih1 _ _ _ _ _ _ _ _ _
      | exact cursor_Eight.mono _ _
      | exact cursor_Four.mono _ _
      | exact LeO.none _
      | refine LeO.ite ?_ ?_
      | refine LeO.bind ?_ (fun _ => ?_)
set_option maxHeartbeats 8000000 in
set_option maxRecDepth 100000 in
theorem field_PrintWide.calls (k : Nat) (a0_0 : Int) (a0_1 : Int) (a0_2 : Int) (a0_3 : Int) (a1_0 : Bool) (a1_1 : Bool) (a1_2 : Bool) (a1_3 : Bool) (r : ByteArray) (w : World) (h : field_PrintWide.f k a0_0 a0_1 a0_2 a0_3 a1_0 a1_1 a1_2 a1_3 = some r) :
    Calls Tryd.prog 11 #[.agg #[.int .u64 a0_0, .int .u64 a0_1, .int .u64 a0_2, .int .u32 a0_3], .agg #[.bool a1_0, .bool a1_1, .bool a1_2, .bool a1_3]] w fun e w' => e = .returned (.string r) ∧ Below w.heap.size w w' := by
  have hu33 := Tryd.underlying33
  have hu37 := Tryd.underlying37
  have HB := Aside0.mk (Below.refl w.heap.size w)
  have H : (if a1_0 = true then ((cursor_Eight.f k a0_0).bind fun t188 => (if 0 + t188.size ≤ 9223372036854775807 then (field_PrintWide.j0 k ((⟨#[]⟩ : ByteArray) ++ t188) a0_0 a0_1 a0_2 a0_3 a1_0 a1_1 a1_2 a1_3) else (none))) else (field_PrintWide.j0 k (⟨#[]⟩ : ByteArray) a0_0 a0_1 a0_2 a0_3 a1_0 a1_1 a1_2 a1_3)) = some r := h
  clear h
  have HC3 := Aside0.mk H
  clear H
  go_enter Tryd.func11, Tryd.ntmps11
  go_upto_if 7 with (first | ((with_reducible refine gate_dst (N := 2) rfl ?_); refine box_event ?hg (N := 2) ?hd (cs := #[.int .u64 a0_0, .int .u64 a0_1, .int .u64 a0_2, .int .u32 a0_3]) (t := 33) ?hr ?_; (case hd => rfl); (case hg => rfl); (case hr => first | (go_simp; done) | (go_simp; rfl)); intro gb186 hg w4 hbox hb; have n0_ := Aside0.mk (below_step (by repeat (first | (with_reducible first | exact HB.out | apply below_alloc | apply pw_below_drewN | apply below_drew1) | exact HB.out)) hb); have n1_ := Aside0.mk (hbox); have n2_ := Aside0.mk ((by rw [hg]; exact (below_size (by repeat (first | (with_reducible first | exact HB.out | apply below_alloc | apply pw_below_drewN | apply below_drew1) | exact HB.out))) : w.heap.size ≤ gb186)); have n3_ := Aside0.mk ((by rw [hg]; exact (below_size (by repeat (first | (with_reducible first | exact HB.out | apply below_alloc | apply pw_below_drewN | apply below_drew1) | exact HB.out))) : w.heap.size ≤ gb186)); clear HB; have HB := n0_; have BK186 := n1_; have GW186 := n2_; have GE186 := n3_; clear n0_ n1_ n2_ n3_; clear hb hbox hg) | ((with_reducible refine gate_dst (N := 3) rfl ?_); refine box_event ?hg (N := 3) ?hd (cs := #[.bool a1_0, .bool a1_1, .bool a1_2, .bool a1_3]) (t := 37) ?hr ?_; (case hd => rfl); (case hg => rfl); (case hr => first | (go_simp; done) | (go_simp; rfl)); intro gb187 hg w5 hbox hb; have n0_ := Aside0.mk (blk_below (g := gb186) (o := .cells #[.int .u64 a0_0, .int .u64 a0_1, .int .u64 a0_2, .int .u32 a0_3] 33 (0, 0)) (by (with_reducible repeat (first | refine blk_drewN ?_ _ | refine blk_drew ?_ | refine blk_alloc ?_ _)); exact BK186.out) hb); have n1_ := Aside0.mk (below_step (by repeat (first | (with_reducible first | exact HB.out | apply below_alloc | apply pw_below_drewN | apply below_drew1 | refine below_set ?_ GE186.out) | exact HB.out)) hb); have n2_ := Aside0.mk (hbox); have n3_ := Aside0.mk ((by rw [hg]; exact (below_size (by repeat (first | (with_reducible first | exact HB.out | apply below_alloc | apply pw_below_drewN | apply below_drew1 | refine below_set ?_ GE186.out) | exact HB.out))) : w.heap.size ≤ gb187)); have n4_ := Aside0.mk ((by rw [hg]; exact (below_size (by repeat (first | (with_reducible first | exact HB.out | apply below_alloc | apply pw_below_drewN | apply below_drew1 | refine below_set ?_ GE186.out) | exact HB.out))) : w.heap.size ≤ gb187)); have n5_ := Aside0.mk ((by rw [hg]; exact Nat.ne_of_lt (blk_lt (g := gb186) (o := .cells #[.int .u64 a0_0, .int .u64 a0_1, .int .u64 a0_2, .int .u32 a0_3] 33 (0, 0)) (by (with_reducible repeat (first | refine blk_drewN ?_ _ | refine blk_drew ?_ | refine blk_alloc ?_ _)); exact BK186.out)) : gb186 ≠ gb187)); have n6_ := Aside0.mk ((by rw [hg]; exact Nat.ne_of_gt (blk_lt (g := gb186) (o := .cells #[.int .u64 a0_0, .int .u64 a0_1, .int .u64 a0_2, .int .u32 a0_3] 33 (0, 0)) (by (with_reducible repeat (first | refine blk_drewN ?_ _ | refine blk_drew ?_ | refine blk_alloc ?_ _)); exact BK186.out)) : gb187 ≠ gb186)); clear BK186; clear HB; have BK186 := n0_; have HB := n1_; have BK187 := n2_; have GW187 := n3_; have GE187 := n4_; have NB186_187 := n5_; have NB187_186 := n6_; clear n0_ n1_ n2_ n3_ n4_ n5_ n6_; clear hb hbox hg; have hnb6 := NB187_186.out; have hnc6 := NB186_187.out; have hcz7_0 : w5.cell? ⟨gb187, 0, none⟩ = some (.bool a1_0) := (blk_cell BK187.out 0).trans rfl; have hcz7_1 : w5.cell? ⟨gb187, 1, none⟩ = some (.bool a1_1) := (blk_cell BK187.out 1).trans rfl; have hcz7_2 : w5.cell? ⟨gb187, 2, none⟩ = some (.bool a1_2) := (blk_cell BK187.out 2).trans rfl; have hcz7_3 : w5.cell? ⟨gb187, 3, none⟩ = some (.bool a1_3) := (blk_cell BK187.out 3).trans rfl; have hfz7_0 := blk_frozen BK187.out 0; have hfz7_1 := blk_frozen BK187.out 1; have hfz7_2 := blk_frozen BK187.out 2; have hfz7_3 := blk_frozen BK187.out 3))
  (try simp only [Act.put, List.setIfInBounds_toArray, List.set_cons_zero, List.set_cons_succ])
  go_cut [5] (fun v5 wc => ∃ (kq : Nat) (x5_2 : ByteArray), v5 = .string x5_2 ∧ Aside0 (field_PrintWide.j0 kq x5_2 a0_0 a0_1 a0_2 a0_3 a1_0 a1_1 a1_2 a1_3 = some r) ∧ Aside0 (kq ≤ k) ∧ Aside0 (wc.heap[gb186]? = some (.cells #[.int .u64 a0_0, .int .u64 a0_1, .int .u64 a0_2, .int .u32 a0_3] 33 (0, 0))) ∧ Aside0 (wc.heap[gb187]? = some (.cells #[.bool a1_0, .bool a1_1, .bool a1_2, .bool a1_3] 37 (0, 0))) ∧ Aside0 (Below w.heap.size w wc))
  case first =>
    have H := HC3.out
    clear HC3
    by_cases c8 : a1_0 = true
    · subst c8
      have H1 : ((cursor_Eight.f k a0_0).bind fun t188 => (if 0 + t188.size ≤ 9223372036854775807 then (field_PrintWide.j0 k ((⟨#[]⟩ : ByteArray) ++ t188) a0_0 a0_1 a0_2 a0_3 true a1_1 a1_2 a1_3) else (none))) = some r := by rw [if_pos rfl] at H; exact H
      clear H
      have H := H1
      clear H1
      replace H := Option.bind_eq_some_iff.mp H
      obtain ⟨t188, A90, H⟩ := H
      replace H : (if 0 + t188.size ≤ 9223372036854775807 then (field_PrintWide.j0 k ((⟨#[]⟩ : ByteArray) ++ t188) a0_0 a0_1 a0_2 a0_3 true a1_1 a1_2 a1_3) else (none)) = some r := H
      have A9 := Aside0.mk A90
      clear A90
      by_cases c10 : 0 + t188.size ≤ 9223372036854775807
      · rw [if_pos c10] at H
        have c10b0 := eq_true c10
        have c10b1 : decide (0 + t188.size ≤ 9223372036854775807) = true := decide_eq_true c10
        try have c10b2 : (9223372036854775807 < 0 + t188.size) = False := eq_false (Nat.not_lt.2 c10)
        have H' := Aside0.mk H
        clear H
        have hnb11 := NB186_187.out
        have hnc11 := NB187_186.out
        have hcz12_0 : w5.cell? ⟨gb186, 0, none⟩ = some (.int .u64 a0_0) := (blk_cell BK186.out 0).trans rfl
        have hcz12_1 : w5.cell? ⟨gb186, 1, none⟩ = some (.int .u64 a0_1) := (blk_cell BK186.out 1).trans rfl
        have hcz12_2 : w5.cell? ⟨gb186, 2, none⟩ = some (.int .u64 a0_2) := (blk_cell BK186.out 2).trans rfl
        have hcz12_3 : w5.cell? ⟨gb186, 3, none⟩ = some (.int .u32 a0_3) := (blk_cell BK186.out 3).trans rfl
        have hfz12_0 := blk_frozen BK186.out 0
        have hfz12_1 := blk_frozen BK186.out 1
        have hfz12_2 := blk_frozen BK186.out 2
        have hfz12_3 := blk_frozen BK186.out 3
        go_wp2_with (first | ((with_reducible refine gate_callee (f := 30) rfl ?_); refine goesL_ (some 11) rfl rfl Tryd.func30 (by kernel_rfl) rfl #[.int .u64 a0_0] rfl (by (try simp only [List.map_toArray, List.map_cons, List.map_nil]); first | done | rfl | (simp only [List.length_drop, List.length_take]; rfl)) ?_; (with_reducible refine (cursor_Eight.calls k a0_0 t188 _ A9.out).mono ?_); rintro e w13 ⟨rfl, hb⟩; refine ⟨_, rfl, ?_⟩; have n0_ := Aside0.mk (blk_below (g := gb186) (o := .cells #[.int .u64 a0_0, .int .u64 a0_1, .int .u64 a0_2, .int .u32 a0_3] 33 (0, 0)) (by (with_reducible repeat (first | refine blk_drewN ?_ _ | refine blk_drew ?_ | refine blk_alloc ?_ _)); exact BK186.out) hb); have n1_ := Aside0.mk (blk_below (g := gb187) (o := .cells #[.bool true, .bool a1_1, .bool a1_2, .bool a1_3] 37 (0, 0)) (by (with_reducible repeat (first | refine blk_drewN ?_ _ | refine blk_drew ?_ | refine blk_alloc ?_ _)); exact BK187.out) hb); have n2_ := Aside0.mk (below_step (by repeat (first | (with_reducible first | exact HB.out | apply below_alloc | apply pw_below_drewN | apply below_drew1 | refine below_set ?_ GE186.out | refine below_set ?_ GE187.out) | exact HB.out)) hb); clear BK186; clear BK187; clear HB; have BK186 := n0_; have BK187 := n1_; have HB := n2_; clear n0_ n1_ n2_; (try clear hb); (try clear hb2); (try clear hk); (try clear hi)))
        go_meet
        case rel => exact ⟨_, ((⟨#[]⟩ : ByteArray) ++ t188), (by first | rfl | (simp; done) | (simp [*]; done)), H', ⟨by first | omega | exact Nat.le_refl _⟩, ⟨by (with_reducible repeat (first | refine blk_drewN ?_ _ | refine blk_drew ?_ | refine blk_alloc ?_ _)); exact BK186.out⟩, ⟨by (with_reducible repeat (first | refine blk_drewN ?_ _ | refine blk_drew ?_ | refine blk_alloc ?_ _)); exact BK187.out⟩, ⟨by repeat (first | (with_reducible first | exact HB.out | apply below_alloc | apply pw_below_drewN | apply below_drew1 | refine below_set ?_ GE186.out | refine below_set ?_ GE187.out) | exact HB.out)⟩⟩
      · rw [if_neg c10] at H
        exact absurd H (by simp)
    · replace c8 := Bool.eq_false_iff.mpr c8
      subst c8
      have H1 : (field_PrintWide.j0 k (⟨#[]⟩ : ByteArray) a0_0 a0_1 a0_2 a0_3 false a1_1 a1_2 a1_3) = some r := by rw [if_neg (show ¬ (false = true) by decide)] at H; exact H
      clear H
      have H := H1
      clear H1
      have H' := Aside0.mk H
      clear H
      go_wp2
      go_meet
      case rel => exact ⟨_, ((⟨#[]⟩ : ByteArray)), (by first | rfl | (simp; done) | (simp [*]; done)), H', ⟨by first | omega | exact Nat.le_refl _⟩, ⟨by (with_reducible repeat (first | refine blk_drewN ?_ _ | refine blk_drew ?_ | refine blk_alloc ?_ _)); exact BK186.out⟩, ⟨by (with_reducible repeat (first | refine blk_drewN ?_ _ | refine blk_drew ?_ | refine blk_alloc ?_ _)); exact BK187.out⟩, ⟨by repeat (first | (with_reducible first | exact HB.out | apply below_alloc | apply pw_below_drewN | apply below_drew1 | refine below_set ?_ GE186.out | refine below_set ?_ GE187.out) | exact HB.out)⟩⟩
  case rest =>
    clear HC3
    try clear c1
    try clear p2
    try clear c3
    try clear c6
    try clear c8
    try clear c10
    try clear c10b0
    try clear c10b1
    try clear c10b2
    try clear c11
    try clear hcz12_0
    try clear hcz12_1
    try clear hcz12_2
    try clear hcz12_3
    try clear hcz7_0
    try clear hcz7_1
    try clear hcz7_2
    try clear hcz7_3
    try clear hfz12_0
    try clear hfz12_1
    try clear hfz12_2
    try clear hfz12_3
    try clear hfz7_0
    try clear hfz7_1
    try clear hfz7_2
    try clear hfz7_3
    obtain ⟨kq, x5_2, rfl, HA, HJ2, BK186, BK187, HB⟩ := hcut
    cases kq with
    | zero => exact absurd HA.out (by simp [field_PrintWide.j0])
    | succ kj2 =>
      have H := HA.out
      clear HA
      simp only [field_PrintWide.j0] at H
      have HC14 := Aside0.mk H
      clear H
      have hnb15 := NB187_186.out
      have hnc15 := NB186_187.out
      have hcz16_0 : wc.cell? ⟨gb187, 0, none⟩ = some (.bool a1_0) := (blk_cell BK187.out 0).trans rfl
      have hcz16_1 : wc.cell? ⟨gb187, 1, none⟩ = some (.bool a1_1) := (blk_cell BK187.out 1).trans rfl
      have hcz16_2 : wc.cell? ⟨gb187, 2, none⟩ = some (.bool a1_2) := (blk_cell BK187.out 2).trans rfl
      have hcz16_3 : wc.cell? ⟨gb187, 3, none⟩ = some (.bool a1_3) := (blk_cell BK187.out 3).trans rfl
      have hfz16_0 := blk_frozen BK187.out 0
      have hfz16_1 := blk_frozen BK187.out 1
      have hfz16_2 := blk_frozen BK187.out 2
      have hfz16_3 := blk_frozen BK187.out 3
      go_upto_if 14 with (fail)
      go_cut [5] (fun v5 wc => ∃ (kq : Nat) (x5_13 : ByteArray), v5 = .string x5_13 ∧ Aside0 (field_PrintWide.j1 kq x5_13 a0_0 a0_1 a0_2 a0_3 a1_0 a1_1 a1_2 a1_3 = some r) ∧ Aside0 (kq ≤ kj2) ∧ Aside0 (wc.heap[gb186]? = some (.cells #[.int .u64 a0_0, .int .u64 a0_1, .int .u64 a0_2, .int .u32 a0_3] 33 (0, 0))) ∧ Aside0 (wc.heap[gb187]? = some (.cells #[.bool a1_0, .bool a1_1, .bool a1_2, .bool a1_3] 37 (0, 0))) ∧ Aside0 (Below w.heap.size w wc))
      case first =>
        have H := HC14.out
        clear HC14
        by_cases c17 : a1_1 = true
        · subst c17
          have H1 : ((cursor_Eight.f kj2 a0_1).bind fun t189 => (if x5_2.size + t189.size ≤ 9223372036854775807 then (field_PrintWide.j1 kj2 (x5_2 ++ t189) a0_0 a0_1 a0_2 a0_3 a1_0 true a1_2 a1_3) else (none))) = some r := by rw [if_pos rfl] at H; exact H
          clear H
          have H := H1
          clear H1
          replace H := Option.bind_eq_some_iff.mp H
          obtain ⟨t189, A180, H⟩ := H
          replace H : (if x5_2.size + t189.size ≤ 9223372036854775807 then (field_PrintWide.j1 kj2 (x5_2 ++ t189) a0_0 a0_1 a0_2 a0_3 a1_0 true a1_2 a1_3) else (none)) = some r := H
          have A18 := Aside0.mk A180
          clear A180
          by_cases c19 : x5_2.size + t189.size ≤ 9223372036854775807
          · rw [if_pos c19] at H
            have c19b0 := eq_true c19
            have c19b1 : decide (x5_2.size + t189.size ≤ 9223372036854775807) = true := decide_eq_true c19
            try have c19b2 : (9223372036854775807 < x5_2.size + t189.size) = False := eq_false (Nat.not_lt.2 c19)
            have H' := Aside0.mk H
            clear H
            have hnb20 := NB186_187.out
            have hnc20 := NB187_186.out
            have hcz21_0 : wc.cell? ⟨gb186, 0, none⟩ = some (.int .u64 a0_0) := (blk_cell BK186.out 0).trans rfl
            have hcz21_1 : wc.cell? ⟨gb186, 1, none⟩ = some (.int .u64 a0_1) := (blk_cell BK186.out 1).trans rfl
            have hcz21_2 : wc.cell? ⟨gb186, 2, none⟩ = some (.int .u64 a0_2) := (blk_cell BK186.out 2).trans rfl
            have hcz21_3 : wc.cell? ⟨gb186, 3, none⟩ = some (.int .u32 a0_3) := (blk_cell BK186.out 3).trans rfl
            have hfz21_0 := blk_frozen BK186.out 0
            have hfz21_1 := blk_frozen BK186.out 1
            have hfz21_2 := blk_frozen BK186.out 2
            have hfz21_3 := blk_frozen BK186.out 3
            go_wp2_with (first | ((with_reducible refine gate_callee (f := 30) rfl ?_); refine goesL_ (some 18) rfl rfl Tryd.func30 (by kernel_rfl) rfl #[.int .u64 a0_1] rfl (by (try simp only [List.map_toArray, List.map_cons, List.map_nil]); first | done | rfl | (simp only [List.length_drop, List.length_take]; rfl)) ?_; (with_reducible refine (cursor_Eight.calls kj2 a0_1 t189 _ A18.out).mono ?_); rintro e w22 ⟨rfl, hb⟩; refine ⟨_, rfl, ?_⟩; have n0_ := Aside0.mk (blk_below (g := gb186) (o := .cells #[.int .u64 a0_0, .int .u64 a0_1, .int .u64 a0_2, .int .u32 a0_3] 33 (0, 0)) (by (with_reducible repeat (first | refine blk_drewN ?_ _ | refine blk_drew ?_ | refine blk_alloc ?_ _)); exact BK186.out) hb); have n1_ := Aside0.mk (blk_below (g := gb187) (o := .cells #[.bool a1_0, .bool true, .bool a1_2, .bool a1_3] 37 (0, 0)) (by (with_reducible repeat (first | refine blk_drewN ?_ _ | refine blk_drew ?_ | refine blk_alloc ?_ _)); exact BK187.out) hb); have n2_ := Aside0.mk (below_step (by repeat (first | (with_reducible first | exact HB.out | apply below_alloc | apply pw_below_drewN | apply below_drew1 | refine below_set ?_ GE186.out | refine below_set ?_ GE187.out) | exact HB.out)) hb); clear BK186; clear BK187; clear HB; have BK186 := n0_; have BK187 := n1_; have HB := n2_; clear n0_ n1_ n2_; (try clear hb); (try clear hb2); (try clear hk); (try clear hi)))
            go_meet
            case rel => exact ⟨_, (x5_2 ++ t189), (by first | rfl | (simp; done) | (simp [*]; done)), H', ⟨by have := HJ2.out; first | omega | exact Nat.le_refl _⟩, ⟨by (with_reducible repeat (first | refine blk_drewN ?_ _ | refine blk_drew ?_ | refine blk_alloc ?_ _)); exact BK186.out⟩, ⟨by (with_reducible repeat (first | refine blk_drewN ?_ _ | refine blk_drew ?_ | refine blk_alloc ?_ _)); exact BK187.out⟩, ⟨by repeat (first | (with_reducible first | exact HB.out | apply below_alloc | apply pw_below_drewN | apply below_drew1 | refine below_set ?_ GE186.out | refine below_set ?_ GE187.out) | exact HB.out)⟩⟩
          · rw [if_neg c19] at H
            exact absurd H (by simp)
        · replace c17 := Bool.eq_false_iff.mpr c17
          subst c17
          have H1 : (field_PrintWide.j1 kj2 x5_2 a0_0 a0_1 a0_2 a0_3 a1_0 false a1_2 a1_3) = some r := by rw [if_neg (show ¬ (false = true) by decide)] at H; exact H
          clear H
          have H := H1
          clear H1
          have H' := Aside0.mk H
          clear H
          go_wp2
          go_meet
          case rel => exact ⟨_, (x5_2), (by first | rfl | (simp; done) | (simp [*]; done)), H', ⟨by have := HJ2.out; first | omega | exact Nat.le_refl _⟩, ⟨by (with_reducible repeat (first | refine blk_drewN ?_ _ | refine blk_drew ?_ | refine blk_alloc ?_ _)); exact BK186.out⟩, ⟨by (with_reducible repeat (first | refine blk_drewN ?_ _ | refine blk_drew ?_ | refine blk_alloc ?_ _)); exact BK187.out⟩, ⟨by repeat (first | (with_reducible first | exact HB.out | apply below_alloc | apply pw_below_drewN | apply below_drew1 | refine below_set ?_ GE186.out | refine below_set ?_ GE187.out) | exact HB.out)⟩⟩
      case rest =>
        clear HC14
        try clear c1
        try clear c2
        try clear p2
        try clear c3
        try clear c6
        try clear c8
        try clear c10
        try clear c10b0
        try clear c10b1
        try clear c10b2
        try clear c11
        try clear c15
        try clear c17
        try clear c19
        try clear c19b0
        try clear c19b1
        try clear c19b2
        try clear c20
        try clear hcz12_0
        try clear hcz12_1
        try clear hcz12_2
        try clear hcz12_3
        try clear hcz16_0
        try clear hcz16_1
        try clear hcz16_2
        try clear hcz16_3
        try clear hcz21_0
        try clear hcz21_1
        try clear hcz21_2
        try clear hcz21_3
        try clear hcz7_0
        try clear hcz7_1
        try clear hcz7_2
        try clear hcz7_3
        try clear hfz12_0
        try clear hfz12_1
        try clear hfz12_2
        try clear hfz12_3
        try clear hfz16_0
        try clear hfz16_1
        try clear hfz16_2
        try clear hfz16_3
        try clear hfz21_0
        try clear hfz21_1
        try clear hfz21_2
        try clear hfz21_3
        try clear hfz7_0
        try clear hfz7_1
        try clear hfz7_2
        try clear hfz7_3
        try clear p2
        obtain ⟨kq, x5_13, rfl, HA, HJ13, BK186, BK187, HB⟩ := hcut
        cases kq with
        | zero => exact absurd HA.out (by simp [field_PrintWide.j1])
        | succ kj13 =>
          have H := HA.out
          clear HA
          simp only [field_PrintWide.j1] at H
          by_cases c23 : a1_2 = true
          · subst c23
            have H1 : ((cursor_Eight.f kj13 a0_2).bind fun t190 => (if x5_13.size + t190.size ≤ 9223372036854775807 then (if a1_3 = true then ((cursor_Four.f kj13 a0_3).bind fun t191 => (if x5_13.size + t190.size + t191.size ≤ 9223372036854775807 then (some ((x5_13 ++ t190) ++ t191)) else (none))) else (some (x5_13 ++ t190))) else (none))) = some r := by rw [if_pos rfl] at H; exact H
            clear H
            have H := H1
            clear H1
            replace H := Option.bind_eq_some_iff.mp H
            obtain ⟨t190, A240, H⟩ := H
            replace H : (if x5_13.size + t190.size ≤ 9223372036854775807 then (if a1_3 = true then ((cursor_Four.f kj13 a0_3).bind fun t191 => (if x5_13.size + t190.size + t191.size ≤ 9223372036854775807 then (some ((x5_13 ++ t190) ++ t191)) else (none))) else (some (x5_13 ++ t190))) else (none)) = some r := H
            have A24 := Aside0.mk A240
            clear A240
            by_cases c25 : x5_13.size + t190.size ≤ 9223372036854775807
            · rw [if_pos c25] at H
              have c25b0 := eq_true c25
              have c25b1 : decide (x5_13.size + t190.size ≤ 9223372036854775807) = true := decide_eq_true c25
              try have c25b2 : (9223372036854775807 < x5_13.size + t190.size) = False := eq_false (Nat.not_lt.2 c25)
              by_cases c26 : a1_3 = true
              · subst c26
                have H1 : ((cursor_Four.f kj13 a0_3).bind fun t191 => (if x5_13.size + t190.size + t191.size ≤ 9223372036854775807 then (some ((x5_13 ++ t190) ++ t191)) else (none))) = some r := by rw [if_pos rfl] at H; exact H
                clear H
                have H := H1
                clear H1
                replace H := Option.bind_eq_some_iff.mp H
                obtain ⟨t191, A270, H⟩ := H
                replace H : (if x5_13.size + t190.size + t191.size ≤ 9223372036854775807 then (some ((x5_13 ++ t190) ++ t191)) else (none)) = some r := H
                have A27 := Aside0.mk A270
                clear A270
                by_cases c28 : x5_13.size + t190.size + t191.size ≤ 9223372036854775807
                · rw [if_pos c28] at H
                  have c28b0 := eq_true c28
                  have c28b1 : decide (x5_13.size + t190.size + t191.size ≤ 9223372036854775807) = true := decide_eq_true c28
                  try have c28b2 : (9223372036854775807 < x5_13.size + t190.size + t191.size) = False := eq_false (Nat.not_lt.2 c28)
                  obtain rfl := Option.some.inj H
                  have hnb29 := NB187_186.out
                  have hnc29 := NB186_187.out
                  have hcz30_0 : wc.cell? ⟨gb187, 0, none⟩ = some (.bool a1_0) := (blk_cell BK187.out 0).trans rfl
                  have hcz30_1 : wc.cell? ⟨gb187, 1, none⟩ = some (.bool a1_1) := (blk_cell BK187.out 1).trans rfl
                  have hcz30_2 : wc.cell? ⟨gb187, 2, none⟩ = some (.bool true) := (blk_cell BK187.out 2).trans rfl
                  have hcz30_3 : wc.cell? ⟨gb187, 3, none⟩ = some (.bool true) := (blk_cell BK187.out 3).trans rfl
                  have hfz30_0 := blk_frozen BK187.out 0
                  have hfz30_1 := blk_frozen BK187.out 1
                  have hfz30_2 := blk_frozen BK187.out 2
                  have hfz30_3 := blk_frozen BK187.out 3
                  have hcz31_0 : wc.cell? ⟨gb186, 0, none⟩ = some (.int .u64 a0_0) := (blk_cell BK186.out 0).trans rfl
                  have hcz31_1 : wc.cell? ⟨gb186, 1, none⟩ = some (.int .u64 a0_1) := (blk_cell BK186.out 1).trans rfl
                  have hcz31_2 : wc.cell? ⟨gb186, 2, none⟩ = some (.int .u64 a0_2) := (blk_cell BK186.out 2).trans rfl
                  have hcz31_3 : wc.cell? ⟨gb186, 3, none⟩ = some (.int .u32 a0_3) := (blk_cell BK186.out 3).trans rfl
                  have hfz31_0 := blk_frozen BK186.out 0
                  have hfz31_1 := blk_frozen BK186.out 1
                  have hfz31_2 := blk_frozen BK186.out 2
                  have hfz31_3 := blk_frozen BK186.out 3
                  go_wp2_with (first | ((with_reducible refine gate_callee (f := 30) rfl ?_); refine goesL_ (some 25) rfl rfl Tryd.func30 (by kernel_rfl) rfl #[.int .u64 a0_2] rfl (by (try simp only [List.map_toArray, List.map_cons, List.map_nil]); first | done | rfl | (simp only [List.length_drop, List.length_take]; rfl)) ?_; (with_reducible refine (cursor_Eight.calls kj13 a0_2 t190 _ A24.out).mono ?_); rintro e w32 ⟨rfl, hb⟩; refine ⟨_, rfl, ?_⟩; have n0_ := Aside0.mk (blk_below (g := gb186) (o := .cells #[.int .u64 a0_0, .int .u64 a0_1, .int .u64 a0_2, .int .u32 a0_3] 33 (0, 0)) (by (with_reducible repeat (first | refine blk_drewN ?_ _ | refine blk_drew ?_ | refine blk_alloc ?_ _)); exact BK186.out) hb); have n1_ := Aside0.mk (blk_below (g := gb187) (o := .cells #[.bool a1_0, .bool a1_1, .bool true, .bool true] 37 (0, 0)) (by (with_reducible repeat (first | refine blk_drewN ?_ _ | refine blk_drew ?_ | refine blk_alloc ?_ _)); exact BK187.out) hb); have n2_ := Aside0.mk (below_step (by repeat (first | (with_reducible first | exact HB.out | apply below_alloc | apply pw_below_drewN | apply below_drew1 | refine below_set ?_ GE186.out | refine below_set ?_ GE187.out) | exact HB.out)) hb); clear BK186; clear BK187; clear HB; have BK186 := n0_; have BK187 := n1_; have HB := n2_; clear n0_ n1_ n2_; (try clear hb); (try clear hb2); (try clear hk); (try clear hi); have hcz33_0 : w32.cell? ⟨gb187, 0, none⟩ = some (.bool a1_0) := (blk_cell BK187.out 0).trans rfl; have hcz33_1 : w32.cell? ⟨gb187, 1, none⟩ = some (.bool a1_1) := (blk_cell BK187.out 1).trans rfl; have hcz33_2 : w32.cell? ⟨gb187, 2, none⟩ = some (.bool true) := (blk_cell BK187.out 2).trans rfl; have hcz33_3 : w32.cell? ⟨gb187, 3, none⟩ = some (.bool true) := (blk_cell BK187.out 3).trans rfl; have hfz33_0 := blk_frozen BK187.out 0; have hfz33_1 := blk_frozen BK187.out 1; have hfz33_2 := blk_frozen BK187.out 2; have hfz33_3 := blk_frozen BK187.out 3; have hcz34_0 : w32.cell? ⟨gb186, 0, none⟩ = some (.int .u64 a0_0) := (blk_cell BK186.out 0).trans rfl; have hcz34_1 : w32.cell? ⟨gb186, 1, none⟩ = some (.int .u64 a0_1) := (blk_cell BK186.out 1).trans rfl; have hcz34_2 : w32.cell? ⟨gb186, 2, none⟩ = some (.int .u64 a0_2) := (blk_cell BK186.out 2).trans rfl; have hcz34_3 : w32.cell? ⟨gb186, 3, none⟩ = some (.int .u32 a0_3) := (blk_cell BK186.out 3).trans rfl; have hfz34_0 := blk_frozen BK186.out 0; have hfz34_1 := blk_frozen BK186.out 1; have hfz34_2 := blk_frozen BK186.out 2; have hfz34_3 := blk_frozen BK186.out 3) | ((with_reducible refine gate_callee (f := 27) rfl ?_); refine goesL_ (some 32) rfl rfl Tryd.func27 (by kernel_rfl) rfl #[.int .u32 a0_3] rfl (by (try simp only [List.map_toArray, List.map_cons, List.map_nil]); first | done | rfl | (simp only [List.length_drop, List.length_take]; rfl)) ?_; (with_reducible refine (cursor_Four.calls kj13 a0_3 t191 _ A27.out).mono ?_); rintro e w35 ⟨rfl, hb⟩; refine ⟨_, rfl, ?_⟩; have n0_ := Aside0.mk (blk_below (g := gb186) (o := .cells #[.int .u64 a0_0, .int .u64 a0_1, .int .u64 a0_2, .int .u32 a0_3] 33 (0, 0)) (by (with_reducible repeat (first | refine blk_drewN ?_ _ | refine blk_drew ?_ | refine blk_alloc ?_ _)); exact BK186.out) hb); have n1_ := Aside0.mk (blk_below (g := gb187) (o := .cells #[.bool a1_0, .bool a1_1, .bool true, .bool true] 37 (0, 0)) (by (with_reducible repeat (first | refine blk_drewN ?_ _ | refine blk_drew ?_ | refine blk_alloc ?_ _)); exact BK187.out) hb); have n2_ := Aside0.mk (below_step (by repeat (first | (with_reducible first | exact HB.out | apply below_alloc | apply pw_below_drewN | apply below_drew1 | refine below_set ?_ GE186.out | refine below_set ?_ GE187.out) | exact HB.out)) hb); clear BK186; clear BK187; clear HB; have BK186 := n0_; have BK187 := n1_; have HB := n2_; clear n0_ n1_ n2_; (try clear hb); (try clear hb2); (try clear hk); (try clear hi)))
                  go_ret
                  exact ⟨by first | rfl | (simp [errW_none, errW_some] <;> rfl) | (simp [*, errW_none, errW_some] <;> rfl), by repeat (first | (with_reducible first | exact HB.out | apply below_alloc | apply pw_below_drewN | apply below_drew1 | refine below_set ?_ GE186.out | refine below_set ?_ GE187.out) | exact HB.out)⟩
                · rw [if_neg c28] at H
                  exact absurd H (by simp)
              · replace c26 := Bool.eq_false_iff.mpr c26
                subst c26
                have H1 : (some (x5_13 ++ t190)) = some r := by rw [if_neg (show ¬ (false = true) by decide)] at H; exact H
                clear H
                have H := H1
                clear H1
                obtain rfl := Option.some.inj H
                have hnb36 := NB187_186.out
                have hnc36 := NB186_187.out
                have hcz37_0 : wc.cell? ⟨gb187, 0, none⟩ = some (.bool a1_0) := (blk_cell BK187.out 0).trans rfl
                have hcz37_1 : wc.cell? ⟨gb187, 1, none⟩ = some (.bool a1_1) := (blk_cell BK187.out 1).trans rfl
                have hcz37_2 : wc.cell? ⟨gb187, 2, none⟩ = some (.bool true) := (blk_cell BK187.out 2).trans rfl
                have hcz37_3 : wc.cell? ⟨gb187, 3, none⟩ = some (.bool false) := (blk_cell BK187.out 3).trans rfl
                have hfz37_0 := blk_frozen BK187.out 0
                have hfz37_1 := blk_frozen BK187.out 1
                have hfz37_2 := blk_frozen BK187.out 2
                have hfz37_3 := blk_frozen BK187.out 3
                have hcz38_0 : wc.cell? ⟨gb186, 0, none⟩ = some (.int .u64 a0_0) := (blk_cell BK186.out 0).trans rfl
                have hcz38_1 : wc.cell? ⟨gb186, 1, none⟩ = some (.int .u64 a0_1) := (blk_cell BK186.out 1).trans rfl
                have hcz38_2 : wc.cell? ⟨gb186, 2, none⟩ = some (.int .u64 a0_2) := (blk_cell BK186.out 2).trans rfl
                have hcz38_3 : wc.cell? ⟨gb186, 3, none⟩ = some (.int .u32 a0_3) := (blk_cell BK186.out 3).trans rfl
                have hfz38_0 := blk_frozen BK186.out 0
                have hfz38_1 := blk_frozen BK186.out 1
                have hfz38_2 := blk_frozen BK186.out 2
                have hfz38_3 := blk_frozen BK186.out 3
                go_wp2_with (first | ((with_reducible refine gate_callee (f := 30) rfl ?_); refine goesL_ (some 25) rfl rfl Tryd.func30 (by kernel_rfl) rfl #[.int .u64 a0_2] rfl (by (try simp only [List.map_toArray, List.map_cons, List.map_nil]); first | done | rfl | (simp only [List.length_drop, List.length_take]; rfl)) ?_; (with_reducible refine (cursor_Eight.calls kj13 a0_2 t190 _ A24.out).mono ?_); rintro e w39 ⟨rfl, hb⟩; refine ⟨_, rfl, ?_⟩; have n0_ := Aside0.mk (blk_below (g := gb186) (o := .cells #[.int .u64 a0_0, .int .u64 a0_1, .int .u64 a0_2, .int .u32 a0_3] 33 (0, 0)) (by (with_reducible repeat (first | refine blk_drewN ?_ _ | refine blk_drew ?_ | refine blk_alloc ?_ _)); exact BK186.out) hb); have n1_ := Aside0.mk (blk_below (g := gb187) (o := .cells #[.bool a1_0, .bool a1_1, .bool true, .bool false] 37 (0, 0)) (by (with_reducible repeat (first | refine blk_drewN ?_ _ | refine blk_drew ?_ | refine blk_alloc ?_ _)); exact BK187.out) hb); have n2_ := Aside0.mk (below_step (by repeat (first | (with_reducible first | exact HB.out | apply below_alloc | apply pw_below_drewN | apply below_drew1 | refine below_set ?_ GE186.out | refine below_set ?_ GE187.out) | exact HB.out)) hb); clear BK186; clear BK187; clear HB; have BK186 := n0_; have BK187 := n1_; have HB := n2_; clear n0_ n1_ n2_; (try clear hb); (try clear hb2); (try clear hk); (try clear hi); have hcz40_0 : w39.cell? ⟨gb187, 0, none⟩ = some (.bool a1_0) := (blk_cell BK187.out 0).trans rfl; have hcz40_1 : w39.cell? ⟨gb187, 1, none⟩ = some (.bool a1_1) := (blk_cell BK187.out 1).trans rfl; have hcz40_2 : w39.cell? ⟨gb187, 2, none⟩ = some (.bool true) := (blk_cell BK187.out 2).trans rfl; have hcz40_3 : w39.cell? ⟨gb187, 3, none⟩ = some (.bool false) := (blk_cell BK187.out 3).trans rfl; have hfz40_0 := blk_frozen BK187.out 0; have hfz40_1 := blk_frozen BK187.out 1; have hfz40_2 := blk_frozen BK187.out 2; have hfz40_3 := blk_frozen BK187.out 3))
                go_ret
                exact ⟨by first | rfl | (simp [errW_none, errW_some] <;> rfl) | (simp [*, errW_none, errW_some] <;> rfl), by repeat (first | (with_reducible first | exact HB.out | apply below_alloc | apply pw_below_drewN | apply below_drew1 | refine below_set ?_ GE186.out | refine below_set ?_ GE187.out) | exact HB.out)⟩
            · rw [if_neg c25] at H
              exact absurd H (by simp)
          · replace c23 := Bool.eq_false_iff.mpr c23
            subst c23
            have H1 : (if a1_3 = true then ((cursor_Four.f kj13 a0_3).bind fun t192 => (if x5_13.size + t192.size ≤ 9223372036854775807 then (some (x5_13 ++ t192)) else (none))) else (some x5_13)) = some r := by rw [if_neg (show ¬ (false = true) by decide)] at H; exact H
            clear H
            have H := H1
            clear H1
            by_cases c41 : a1_3 = true
            · subst c41
              have H1 : ((cursor_Four.f kj13 a0_3).bind fun t192 => (if x5_13.size + t192.size ≤ 9223372036854775807 then (some (x5_13 ++ t192)) else (none))) = some r := by rw [if_pos rfl] at H; exact H
              clear H
              have H := H1
              clear H1
              replace H := Option.bind_eq_some_iff.mp H
              obtain ⟨t192, A420, H⟩ := H
              replace H : (if x5_13.size + t192.size ≤ 9223372036854775807 then (some (x5_13 ++ t192)) else (none)) = some r := H
              have A42 := Aside0.mk A420
              clear A420
              by_cases c43 : x5_13.size + t192.size ≤ 9223372036854775807
              · rw [if_pos c43] at H
                have c43b0 := eq_true c43
                have c43b1 : decide (x5_13.size + t192.size ≤ 9223372036854775807) = true := decide_eq_true c43
                try have c43b2 : (9223372036854775807 < x5_13.size + t192.size) = False := eq_false (Nat.not_lt.2 c43)
                obtain rfl := Option.some.inj H
                have hnb44 := NB187_186.out
                have hnc44 := NB186_187.out
                have hcz45_0 : wc.cell? ⟨gb187, 0, none⟩ = some (.bool a1_0) := (blk_cell BK187.out 0).trans rfl
                have hcz45_1 : wc.cell? ⟨gb187, 1, none⟩ = some (.bool a1_1) := (blk_cell BK187.out 1).trans rfl
                have hcz45_2 : wc.cell? ⟨gb187, 2, none⟩ = some (.bool false) := (blk_cell BK187.out 2).trans rfl
                have hcz45_3 : wc.cell? ⟨gb187, 3, none⟩ = some (.bool true) := (blk_cell BK187.out 3).trans rfl
                have hfz45_0 := blk_frozen BK187.out 0
                have hfz45_1 := blk_frozen BK187.out 1
                have hfz45_2 := blk_frozen BK187.out 2
                have hfz45_3 := blk_frozen BK187.out 3
                have hcz46_0 : wc.cell? ⟨gb186, 0, none⟩ = some (.int .u64 a0_0) := (blk_cell BK186.out 0).trans rfl
                have hcz46_1 : wc.cell? ⟨gb186, 1, none⟩ = some (.int .u64 a0_1) := (blk_cell BK186.out 1).trans rfl
                have hcz46_2 : wc.cell? ⟨gb186, 2, none⟩ = some (.int .u64 a0_2) := (blk_cell BK186.out 2).trans rfl
                have hcz46_3 : wc.cell? ⟨gb186, 3, none⟩ = some (.int .u32 a0_3) := (blk_cell BK186.out 3).trans rfl
                have hfz46_0 := blk_frozen BK186.out 0
                have hfz46_1 := blk_frozen BK186.out 1
                have hfz46_2 := blk_frozen BK186.out 2
                have hfz46_3 := blk_frozen BK186.out 3
                go_wp2_with (first | ((with_reducible refine gate_callee (f := 27) rfl ?_); refine goesL_ (some 32) rfl rfl Tryd.func27 (by kernel_rfl) rfl #[.int .u32 a0_3] rfl (by (try simp only [List.map_toArray, List.map_cons, List.map_nil]); first | done | rfl | (simp only [List.length_drop, List.length_take]; rfl)) ?_; (with_reducible refine (cursor_Four.calls kj13 a0_3 t192 _ A42.out).mono ?_); rintro e w47 ⟨rfl, hb⟩; refine ⟨_, rfl, ?_⟩; have n0_ := Aside0.mk (blk_below (g := gb186) (o := .cells #[.int .u64 a0_0, .int .u64 a0_1, .int .u64 a0_2, .int .u32 a0_3] 33 (0, 0)) (by (with_reducible repeat (first | refine blk_drewN ?_ _ | refine blk_drew ?_ | refine blk_alloc ?_ _)); exact BK186.out) hb); have n1_ := Aside0.mk (blk_below (g := gb187) (o := .cells #[.bool a1_0, .bool a1_1, .bool false, .bool true] 37 (0, 0)) (by (with_reducible repeat (first | refine blk_drewN ?_ _ | refine blk_drew ?_ | refine blk_alloc ?_ _)); exact BK187.out) hb); have n2_ := Aside0.mk (below_step (by repeat (first | (with_reducible first | exact HB.out | apply below_alloc | apply pw_below_drewN | apply below_drew1 | refine below_set ?_ GE186.out | refine below_set ?_ GE187.out) | exact HB.out)) hb); clear BK186; clear BK187; clear HB; have BK186 := n0_; have BK187 := n1_; have HB := n2_; clear n0_ n1_ n2_; (try clear hb); (try clear hb2); (try clear hk); (try clear hi)))
                go_ret
                exact ⟨by first | rfl | (simp [errW_none, errW_some] <;> rfl) | (simp [*, errW_none, errW_some] <;> rfl), by repeat (first | (with_reducible first | exact HB.out | apply below_alloc | apply pw_below_drewN | apply below_drew1 | refine below_set ?_ GE186.out | refine below_set ?_ GE187.out) | exact HB.out)⟩
              · rw [if_neg c43] at H
                exact absurd H (by simp)
            · replace c41 := Bool.eq_false_iff.mpr c41
              subst c41
              have H1 : (some x5_13) = some r := by rw [if_neg (show ¬ (false = true) by decide)] at H; exact H
              clear H
              have H := H1
              clear H1
              obtain rfl := Option.some.inj H
              have hnb48 := NB187_186.out
              have hnc48 := NB186_187.out
              have hcz49_0 : wc.cell? ⟨gb187, 0, none⟩ = some (.bool a1_0) := (blk_cell BK187.out 0).trans rfl
              have hcz49_1 : wc.cell? ⟨gb187, 1, none⟩ = some (.bool a1_1) := (blk_cell BK187.out 1).trans rfl
              have hcz49_2 : wc.cell? ⟨gb187, 2, none⟩ = some (.bool false) := (blk_cell BK187.out 2).trans rfl
              have hcz49_3 : wc.cell? ⟨gb187, 3, none⟩ = some (.bool false) := (blk_cell BK187.out 3).trans rfl
              have hfz49_0 := blk_frozen BK187.out 0
              have hfz49_1 := blk_frozen BK187.out 1
              have hfz49_2 := blk_frozen BK187.out 2
              have hfz49_3 := blk_frozen BK187.out 3
              go_wp2
              go_ret
              exact ⟨by first | rfl | (simp [errW_none, errW_some] <;> rfl) | (simp [*, errW_none, errW_some] <;> rfl), by repeat (first | (with_reducible first | exact HB.out | apply below_alloc | apply pw_below_drewN | apply below_drew1 | refine below_set ?_ GE186.out | refine below_set ?_ GE187.out) | exact HB.out)⟩

end Go.Proofs.YtloojhhjljneeaaDoor.P
