/- Written by a program of this session (wip/print2: a patched copy of a printer), not by print.sh: Lean functions with the answers of the Go functions, and the proofs of that; no condition beside those that stand in each theorem. -/
import Derived.Test.YtdlcihbfdbdbbaaPx0
namespace Go.Proofs.Ytdlcihbfdbdbbaa.P
open Go.RowKit Go.Proofs.YtdlcihbfdbdbbaaW.PrintWords Go.Proofs.YtdlcihbfdbdbbaaW.PrintLast Go.Proofs.YtdlcihbfdbdbbaaW.PrintMore
attribute [local go_sem] max2_int min2_int max_two min_two max_three min_three max_four min_four   -- for this text's walks alone
set_option linter.unusedVariables false
set_option linter.unusedSimpArgs false

/-! ### portmanteauref13_Put: function 20 -/
def portmanteauref13_Put.l0 : Nat → List (S38) → Bool → List (S38) → Int → Int → Int → ByteArray → Option ((List (S38)))
  | 0, _, _, _, _, _, _, _ => none
  | k + 1, x5, x6, x9, x10, x11, x239000, x239001 => if x11 < x10 then (if 0 ≤ x11 then (if x11 < (x9.length : Int) then (if ((rd_T38 x9 x11).f0) = x239000 then (if x6 = true then (portmanteauref13_Put.l0 k x5 x6 x9 x10 (wrap64 (x11 + 1)) x239000 x239001) else (if x5.length < 5864062014805 then (portmanteauref13_Put.l0 k (x5 ++ [(⟨x239000, x239001⟩ : S38)]) true x9 x10 (wrap64 (x11 + 1)) x239000 x239001) else (none))) else (if x5.length < 5864062014805 then (portmanteauref13_Put.l0 k (x5 ++ [(⟨(rd_T38 x9 x11).f0, (rd_T38 x9 x11).f1⟩ : S38)]) x6 x9 x10 (wrap64 (x11 + 1)) x239000 x239001) else (none))) else (none)) else (none)) else (if x6 = true then (some x5) else (if x5.length < 5864062014805 then (some (x5 ++ [(⟨x239000, x239001⟩ : S38)])) else (none)))
def portmanteauref13_Put.f (k : Nat) (l0 : List (S38)) (a1_0 : Int) (a1_1 : ByteArray) : Option ((List (S38))) := portmanteauref13_Put.l0 k ([] : List (S38)) false l0 (l0.length : Int) 0 a1_0 a1_1
theorem portmanteauref13_Put.mono_l : ∀ k, (∀ y0 y1 y2 y3 y4 y5 y6, LeO (portmanteauref13_Put.l0 k y0 y1 y2 y3 y4 y5 y6) (portmanteauref13_Put.l0 (k + 1) y0 y1 y2 y3 y4 y5 y6))
  | 0 => fun _ _ _ _ _ _ _ r h => by simp [portmanteauref13_Put.l0] at h
  | k + 1 => by
    have ih0 := portmanteauref13_Put.mono_l k
    · intro y0 y1 y2 y3 y4 y5 y6
      unfold portmanteauref13_Put.l0
      repeat' first
      | (with_reducible exact ih0 _ _ _ _ _ _ _)
      | (with_reducible exact LeO.refl _)
      | (with_reducible exact LeO.none _)
      | (with_reducible refine LeO.ite ?_ ?_)
      | (with_reducible refine LeO.bind ?_ (fun _ => ?_))
      | exact ih0 _ _ _ _ _ _ _
      | exact LeO.none _
      | refine LeO.ite ?_ ?_
      | refine LeO.bind ?_ (fun _ => ?_)
theorem portmanteauref13_Put.mono : ∀ a0 a1 a2 k, LeO (portmanteauref13_Put.f k a0 a1 a2) (portmanteauref13_Put.f (k + 1) a0 a1 a2) := by
  intro a0 a1 a2 k
  have ih0 := portmanteauref13_Put.mono_l k
  unfold portmanteauref13_Put.f
  repeat' first
      | (with_reducible exact ih0 _ _ _ _ _ _ _)
      | (with_reducible exact LeO.refl _)
      | (with_reducible exact LeO.none _)
      | (with_reducible refine LeO.ite ?_ ?_)
      | (with_reducible refine LeO.bind ?_ (fun _ => ?_))
      | exact ih0 _ _ _ _ _ _ _
      | exact LeO.none _
      | refine LeO.ite ?_ ?_
      | refine LeO.bind ?_ (fun _ => ?_)
set_option maxHeartbeats 8000000 in
set_option maxRecDepth 100000 in
theorem portmanteauref13_Put.calls (k : Nat) (A0 : Option Addr) (c0 : Nat) (l0 : List (S38)) (a1_0 : Int) (a1_1 : ByteArray) (r : List (S38)) (w : World) (hr0 : Kd.C k38 w A0 l0.length l0) (hc0 : l0.length ≤ c0) (h : portmanteauref13_Put.f k l0 a1_0 a1_1 = some r) :
    Calls Try.prog 20 #[.slice A0 l0.length c0, .agg #[.int .u16 a1_0, .string a1_1]] w fun e w' => ∃ v0_ : Value, e = .returned (v0_) ∧ Kd.R k38 38 w' w.heap.size (fun _ => True) v0_ r ∧ Below w.heap.size w w' := by
  have hu38 := Try.underlying38
  have HR0 := Aside0.mk hr0
  have HC0 := Aside0.mk hc0
  clear hr0 hc0
  have HB := Aside0.mk (Below.refl w.heap.size w)
  have H : (portmanteauref13_Put.l0 k ([] : List (S38)) false l0 (l0.length : Int) 0 a1_0 a1_1) = some r := h
  clear h
  have H' := Aside0.mk H
  clear H
  go_enter Try.func20, Try.ntmps20
  go_wp2_with (first | ((with_reducible refine gate_dst (N := 3) rfl ?_); refine box_event ?hg (N := 3) ?hd (cs := #[.int .u16 a1_0, .string a1_1]) (t := 38) ?hr ?_; (case hd => rfl); (case hg => rfl); (case hr => first | (go_simp; done) | (go_simp; rfl)); intro gb238 hg w3 hbox hb; have n0_ := Aside0.mk (below_step (by repeat (first | (with_reducible first | exact HB.out | apply below_alloc | apply pw_below_drewN | apply below_drew1) | exact HB.out)) hb); have n1_ := Aside0.mk (hbox); have n2_ := Aside0.mk ((by rw [hg]; exact (below_size (by repeat (first | (with_reducible first | exact HB.out | apply below_alloc | apply pw_below_drewN | apply below_drew1) | exact HB.out))) : w.heap.size ≤ gb238)); have n3_ := Aside0.mk ((by rw [hg]; exact (below_size (by repeat (first | (with_reducible first | exact HB.out | apply below_alloc | apply pw_below_drewN | apply below_drew1) | exact HB.out))) : w.heap.size ≤ gb238)); clear HB; have HB := n0_; have BK238 := n1_; have GW238 := n2_; have GE238 := n3_; clear n0_ n1_ n2_ n3_; clear hb hbox hg))
  go_loopg [5, 6, 11] k (fun kq v5 v6 v11 w' => ∃ (x5_1 : List (S38)) (x6_1 : Bool) (x11_1 : Int), v6 = .bool x6_1 ∧ v11 = .int .i64 x11_1 ∧ Aside0 (portmanteauref13_Put.l0 kq x5_1 x6_1 l0 (l0.length : Int) x11_1 a1_0 a1_1 = some r) ∧ Aside0 (kq ≤ k) ∧ Aside0 (Kd.R k38 38 w' w.heap.size (fun k_ => k_ ≠ gb238) v5 x5_1) ∧ Aside0 (w'.heap[gb238]? = some (.cells #[.int .u16 a1_0, .string a1_1] 38 (0, 0))) ∧ Aside0 (Below w.heap.size w w'))
  case atStart => exact ⟨(([] : List (S38))), (false), (0), (by first | rfl | (simp; done) | (simp [*]; done)), (by first | rfl | (simp; done) | (simp [*]; done)), H', ⟨Nat.le_refl _⟩, ⟨by first | exact Kd.R_nil _ _ _ _ _ | exact Kd.N_nil _ _ _ _ _ | exact Kd.V_nil _ _ _ _ _ | exact Kd.Q_nil _ _ _ _ _ | exact Kd.S_nil _ _ _ _ _⟩, ⟨by (with_reducible repeat (first | refine blk_drewN ?_ _ | refine blk_drew ?_ | refine blk_alloc ?_ _)); exact BK238.out⟩, ⟨by repeat (first | (with_reducible first | exact HB.out | apply below_alloc | apply pw_below_drewN | apply below_drew1 | refine below_set ?_ GE238.out) | exact HB.out)⟩⟩
  case round =>
    clear H'
    try clear c2
    try clear p2
    obtain ⟨x5_1, x6_1, x11_1, rfl, rfl, HA, HK1, HO_5, BK238, HB⟩ := hrel
    cases gk with
    | zero => exact absurd HA.out (by simp [portmanteauref13_Put.l0])
    | succ k1 =>
      have H := HA.out
      clear HA
      simp only [portmanteauref13_Put.l0] at H
      by_cases c4 : x11_1 < (l0.length : Int)
      · rw [if_pos c4] at H
        have c4b0 : decide (x11_1 < (l0.length : Int)) = true := decide_eq_true c4
        clear c4
        by_cases c5 : 0 ≤ x11_1
        · rw [if_pos c5] at H
          have c5b0 : decide (0 ≤ x11_1) = true := decide_eq_true c5
          clear c5
          by_cases c6 : x11_1 < (l0.length : Int)
          · rw [if_pos c6] at H
            have c6b0 : decide (x11_1 < (l0.length : Int)) = true := decide_eq_true c6
            clear c6
            by_cases c7 : ((rd_T38 l0 x11_1).f0) = a1_0
            · rw [if_pos c7] at H
              have c7b0 : (((rd_T38 l0 x11_1).f0) == a1_0) = true := beq_iff_eq.mpr c7
              have c7b1 : (((rd_T38 l0 x11_1).f0) != a1_0) = false := bne_eq_false_iff_eq.mpr c7
              clear c7
              by_cases c8 : x6_1 = true
              · subst c8
                have H1 : (portmanteauref13_Put.l0 k1 x5_1 true l0 (l0.length : Int) (wrap64 (x11_1 + 1)) a1_0 a1_1) = some r := by rw [if_pos rfl] at H; exact H
                clear H
                have H := H1
                clear H1
                have H' := Aside0.mk H
                clear H
                have p242 : 0 ≤ (x11_1 : Int) := of_decide_eq_true (by first | (with_reducible assumption) | assumption)
                have q242 : x11_1 < (l0.length : Int) := of_decide_eq_true (by first | (with_reducible assumption) | assumption)
                obtain ⟨ad242, e242, hx242_0, hx242_1⟩ := at_T38 HR0.out x11_1 p242 q242
                cases e242
                replace hx242_0 := (HB.out.cell (World.block_lt_of_cell? w _ hx242_0)).trans hx242_0
                replace hx242_1 := (HB.out.cell (World.block_lt_of_cell? w _ hx242_1)).trans hx242_1
                replace p242 := eq_true p242
                replace q242 := eq_true q242
                go_wp2_with (first | ((with_reducible refine gate_dst (N := 8) rfl ?_); refine box_event ?hg (N := 8) ?hd (cs := #[.int .u16 0, .string (⟨#[]⟩ : ByteArray)]) (t := 38) ?hr ?_; (case hd => rfl); (case hg => rfl); (case hr => first | (go_simp; done) | (go_simp; rfl)); intro gb243 hg w9 hbox hb; have n0_ := Aside0.mk (Kd.R_below (Kd.R_elderB (by (with_reducible repeat (first | apply Kd.R_alloc | apply Kd.R_drewN | apply Kd.R_drew)); exact HO_5.out) gb243 (Nat.le_of_eq hg.symm)) hb); have n1_ := Aside0.mk (blk_below (g := gb238) (o := .cells #[.int .u16 a1_0, .string a1_1] 38 (0, 0)) (by (with_reducible repeat (first | refine blk_drewN ?_ _ | refine blk_drew ?_ | refine blk_alloc ?_ _)); exact BK238.out) hb); have n2_ := Aside0.mk (below_step (by repeat (first | (with_reducible first | exact HB.out | apply below_alloc | apply pw_below_drewN | apply below_drew1 | refine below_set ?_ GE238.out) | exact HB.out)) hb); have n3_ := Aside0.mk (hbox); have n4_ := Aside0.mk ((by rw [hg]; exact (below_size (by repeat (first | (with_reducible first | exact HB.out | apply below_alloc | apply pw_below_drewN | apply below_drew1 | refine below_set ?_ GE238.out) | exact HB.out))) : w.heap.size ≤ gb243)); have n5_ := Aside0.mk ((by rw [hg]; exact (below_size (by repeat (first | (with_reducible first | exact HB.out | apply below_alloc | apply pw_below_drewN | apply below_drew1 | refine below_set ?_ GE238.out) | exact HB.out))) : w.heap.size ≤ gb243)); have n6_ := Aside0.mk ((by rw [hg]; exact Nat.ne_of_lt (blk_lt (g := gb238) (o := .cells #[.int .u16 a1_0, .string a1_1] 38 (0, 0)) (by (with_reducible repeat (first | refine blk_drewN ?_ _ | refine blk_drew ?_ | refine blk_alloc ?_ _)); exact BK238.out)) : gb238 ≠ gb243)); have n7_ := Aside0.mk ((by rw [hg]; exact Nat.ne_of_gt (blk_lt (g := gb238) (o := .cells #[.int .u16 a1_0, .string a1_1] 38 (0, 0)) (by (with_reducible repeat (first | refine blk_drewN ?_ _ | refine blk_drew ?_ | refine blk_alloc ?_ _)); exact BK238.out)) : gb243 ≠ gb238)); clear HO_5; clear BK238; clear HB; have HO_5 := n0_; have BK238 := n1_; have HB := n2_; have BK243 := n3_; have GW243 := n4_; have GE243 := n5_; have NB238_243 := n6_; have NB243_238 := n7_; clear n0_ n1_ n2_ n3_ n4_ n5_ n6_ n7_; clear hb hbox hg; have hnb10 := NB243_238.out; have hnc10 := NB238_243.out; have hcz11_0 : w9.cell? ⟨gb243, 0, none⟩ = some (.int .u16 0) := (blk_cell BK243.out 0).trans rfl; have hcz11_1 : w9.cell? ⟨gb243, 1, none⟩ = some (.string (⟨#[]⟩ : ByteArray)) := (blk_cell BK243.out 1).trans rfl; have hfz11_0 := blk_frozen BK243.out 0; have hfz11_1 := blk_frozen BK243.out 1; have hcz12_0 : w9.cell? ⟨gb238, 0, none⟩ = some (.int .u16 a1_0) := (blk_cell BK238.out 0).trans rfl; have hcz12_1 : w9.cell? ⟨gb238, 1, none⟩ = some (.string a1_1) := (blk_cell BK238.out 1).trans rfl; have hfz12_0 := blk_frozen BK238.out 0; have hfz12_1 := blk_frozen BK238.out 1))
                go_roundg k1
                case measure => have := HK1.out; omega
                case rel => exact ⟨(x5_1), (true), (wrap64 (x11_1 + 1)), (by first | rfl | (simp; done) | (simp [*]; done)), (by first | rfl | (simp; done) | (simp [*]; done)), H', ⟨by have := HK1.out; omega⟩, ⟨by (with_reducible repeat (first | apply Kd.R_alloc | apply Kd.R_drewN | apply Kd.R_drew)); exact Kd.R_mono (Kd.R_far (p := ⟨gb243, 1, none⟩) (Kd.R_far (p := ⟨gb243, 0, none⟩) (Kd.R_mono HO_5.out (fun k_ hk => (⟨hk, hk.2⟩ : _ ∧ k_ ≠ gb243))) (fun _ hk => hk.2) (.int .u16 ((rd_T38 l0 x11_1).f0))) (fun _ hk => hk.2) (.string ((rd_T38 l0 x11_1).f1))) (fun _ hk => hk.1.1)⟩, ⟨by (with_reducible repeat (first | refine blk_drewN ?_ _ | refine blk_drew ?_ | refine blk_alloc ?_ _)); refine blk_far ?_ NB238_243.out _; (with_reducible repeat (first | refine blk_drewN ?_ _ | refine blk_drew ?_ | refine blk_alloc ?_ _)); refine blk_far ?_ NB238_243.out _; (with_reducible repeat (first | refine blk_drewN ?_ _ | refine blk_drew ?_ | refine blk_alloc ?_ _)); exact BK238.out⟩, ⟨by repeat (first | (with_reducible first | exact HB.out | apply below_alloc | apply pw_below_drewN | apply below_drew1 | refine below_set ?_ GE238.out | refine below_set ?_ GE243.out) | exact HB.out)⟩⟩
              · replace c8 := Bool.eq_false_iff.mpr c8
                subst c8
                have H1 : (if x5_1.length < 5864062014805 then (portmanteauref13_Put.l0 k1 (x5_1 ++ [(⟨a1_0, a1_1⟩ : S38)]) true l0 (l0.length : Int) (wrap64 (x11_1 + 1)) a1_0 a1_1) else (none)) = some r := by rw [if_neg (show ¬ (false = true) by decide)] at H; exact H
                clear H
                have H := H1
                clear H1
                by_cases c13 : x5_1.length < 5864062014805
                · rw [if_pos c13] at H
                  have LMc13 := Aside0.mk c13
                  clear c13
                  obtain ⟨y244, hy244⟩ : ∃ y_ : List (S38), y_ = (x5_1 ++ [(⟨a1_0, a1_1⟩ : S38)]) := ⟨_, rfl⟩
                  replace H : (portmanteauref13_Put.l0 k1 y244 true l0 (l0.length : Int) (wrap64 (x11_1 + 1)) a1_0 a1_1) = some r := by first | (rw [hy244]; with_reducible exact H) | (have H2_ := (Option.bind_some _ _).symm.trans H; rw [hy244]; with_reducible exact H2_) | (have H2_ := (Option.bind_some _ _).symm.trans H; with_reducible exact H2_) | with_reducible exact H | (rw [hy244]; exact H) | exact H
                  have Ny244 := Aside0.mk hy244
                  clear hy244
                  have H' := Aside0.mk H
                  clear H
                  have p242 : 0 ≤ (x11_1 : Int) := of_decide_eq_true (by first | (with_reducible assumption) | assumption)
                  have q242 : x11_1 < (l0.length : Int) := of_decide_eq_true (by first | (with_reducible assumption) | assumption)
                  obtain ⟨ad242, e242, hx242_0, hx242_1⟩ := at_T38 HR0.out x11_1 p242 q242
                  cases e242
                  replace hx242_0 := (HB.out.cell (World.block_lt_of_cell? w _ hx242_0)).trans hx242_0
                  replace hx242_1 := (HB.out.cell (World.block_lt_of_cell? w _ hx242_1)).trans hx242_1
                  replace p242 := eq_true p242
                  replace q242 := eq_true q242
                  go_wp2_with (first | ((with_reducible refine gate_dst (N := 8) rfl ?_); refine box_event ?hg (N := 8) ?hd (cs := #[.int .u16 0, .string (⟨#[]⟩ : ByteArray)]) (t := 38) ?hr ?_; (case hd => rfl); (case hg => rfl); (case hr => first | (go_simp; done) | (go_simp; rfl)); intro gb243 hg w14 hbox hb; have n0_ := Aside0.mk (Kd.R_below (Kd.R_elderB (by (with_reducible repeat (first | apply Kd.R_alloc | apply Kd.R_drewN | apply Kd.R_drew)); exact HO_5.out) gb243 (Nat.le_of_eq hg.symm)) hb); have n1_ := Aside0.mk (blk_below (g := gb238) (o := .cells #[.int .u16 a1_0, .string a1_1] 38 (0, 0)) (by (with_reducible repeat (first | refine blk_drewN ?_ _ | refine blk_drew ?_ | refine blk_alloc ?_ _)); exact BK238.out) hb); have n2_ := Aside0.mk (below_step (by repeat (first | (with_reducible first | exact HB.out | apply below_alloc | apply pw_below_drewN | apply below_drew1 | refine below_set ?_ GE238.out) | exact HB.out)) hb); have n3_ := Aside0.mk (hbox); have n4_ := Aside0.mk ((by rw [hg]; exact (below_size (by repeat (first | (with_reducible first | exact HB.out | apply below_alloc | apply pw_below_drewN | apply below_drew1 | refine below_set ?_ GE238.out) | exact HB.out))) : w.heap.size ≤ gb243)); have n5_ := Aside0.mk ((by rw [hg]; exact (below_size (by repeat (first | (with_reducible first | exact HB.out | apply below_alloc | apply pw_below_drewN | apply below_drew1 | refine below_set ?_ GE238.out) | exact HB.out))) : w.heap.size ≤ gb243)); have n6_ := Aside0.mk ((by rw [hg]; exact Nat.ne_of_lt (blk_lt (g := gb238) (o := .cells #[.int .u16 a1_0, .string a1_1] 38 (0, 0)) (by (with_reducible repeat (first | refine blk_drewN ?_ _ | refine blk_drew ?_ | refine blk_alloc ?_ _)); exact BK238.out)) : gb238 ≠ gb243)); have n7_ := Aside0.mk ((by rw [hg]; exact Nat.ne_of_gt (blk_lt (g := gb238) (o := .cells #[.int .u16 a1_0, .string a1_1] 38 (0, 0)) (by (with_reducible repeat (first | refine blk_drewN ?_ _ | refine blk_drew ?_ | refine blk_alloc ?_ _)); exact BK238.out)) : gb243 ≠ gb238)); clear HO_5; clear BK238; clear HB; have HO_5 := n0_; have BK238 := n1_; have HB := n2_; have BK243 := n3_; have GW243 := n4_; have GE243 := n5_; have NB238_243 := n6_; have NB243_238 := n7_; clear n0_ n1_ n2_ n3_ n4_ n5_ n6_ n7_; clear hb hbox hg; have hnb15 := NB243_238.out; have hnc15 := NB238_243.out; have hcz16_0 : w14.cell? ⟨gb243, 0, none⟩ = some (.int .u16 0) := (blk_cell BK243.out 0).trans rfl; have hcz16_1 : w14.cell? ⟨gb243, 1, none⟩ = some (.string (⟨#[]⟩ : ByteArray)) := (blk_cell BK243.out 1).trans rfl; have hfz16_0 := blk_frozen BK243.out 0; have hfz16_1 := blk_frozen BK243.out 1; have hcz17_0 : w14.cell? ⟨gb238, 0, none⟩ = some (.int .u16 a1_0) := (blk_cell BK238.out 0).trans rfl; have hcz17_1 : w14.cell? ⟨gb238, 1, none⟩ = some (.string a1_1) := (blk_cell BK238.out 1).trans rfl; have hfz17_0 := blk_frozen BK238.out 0; have hfz17_1 := blk_frozen BK238.out 1) | ((with_reducible refine gate_builtin (b := .append) (xs := #[.tmp 26, .tmp 28]) rfl ?_); at_builtin; refine Kd.R_append k38 (w0 := w) w.heap.size rfl (.tmp 26) (.tmp 28) 22 38 (.agg #[(.int .u16 0), (.string ⟨#[]⟩)]) 24 rfl Try.underlying22 info38 rfl (by decide) (by omega) u5 x5_1 (⟨a1_0, a1_1⟩ : S38) [.int .u16 a1_0, .string a1_1] (fun k_ => k_ ≠ gb238 ∧ k_ ≠ gb243) (fun _ => False) rfl (by first | (go_simp; done) | (go_simp; rfl)) ?aP (fun _ hk => hk.elim) ?aF ?aO ?aB ?aS ?aL ?_; (case aP => exact k38_mkM _ _ _ (⟨a1_0, a1_1⟩ : S38)); (case aB => exact (by repeat (first | (with_reducible first | exact HB.out | apply below_alloc | apply pw_below_drewN | apply below_drew1 | refine below_set ?_ GE238.out | refine below_set ?_ GE243.out) | exact HB.out))); (case aF => exact (fun k_ hk => ⟨Kd.freshB (g := gb238) (o := .cells #[.int .u16 a1_0, .string a1_1] 38 (0, 0)) (by (with_reducible repeat (first | refine blk_drewN ?_ _ | refine blk_drew ?_ | refine blk_alloc ?_ _)); refine blk_far ?_ NB238_243.out _; (with_reducible repeat (first | refine blk_drewN ?_ _ | refine blk_drew ?_ | refine blk_alloc ?_ _)); refine blk_far ?_ NB238_243.out _; (with_reducible repeat (first | refine blk_drewN ?_ _ | refine blk_drew ?_ | refine blk_alloc ?_ _)); exact BK238.out) k_ hk, Kd.freshB (g := gb243) (o := .cells #[.int .u16 ((rd_T38 l0 x11_1).f0), .string ((rd_T38 l0 x11_1).f1)] 38 (0, 0)) (by (with_reducible repeat (first | refine blk_drewN ?_ _ | refine blk_drew ?_ | refine blk_alloc ?_ _)); refine blk_put (cs := #[.int .u16 ((rd_T38 l0 x11_1).f0), .string (⟨#[]⟩ : ByteArray)]) ?_ 1 _ rfl; (with_reducible repeat (first | refine blk_drewN ?_ _ | refine blk_drew ?_ | refine blk_alloc ?_ _)); refine blk_put (cs := #[.int .u16 0, .string (⟨#[]⟩ : ByteArray)]) ?_ 0 _ rfl; (with_reducible repeat (first | refine blk_drewN ?_ _ | refine blk_drew ?_ | refine blk_alloc ?_ _)); exact BK243.out) k_ hk⟩)); (case aO => exact (by (with_reducible repeat (first | apply Kd.R_alloc | apply Kd.R_drewN | apply Kd.R_drew)); exact Kd.R_mono (Kd.R_far (p := ⟨gb243, 1, none⟩) (Kd.R_far (p := ⟨gb243, 0, none⟩) (Kd.R_mono HO_5.out (fun k_ hk => (⟨hk, hk.2⟩ : _ ∧ k_ ≠ gb243))) (fun _ hk => hk.2) (.int .u16 ((rd_T38 l0 x11_1).f0))) (fun _ hk => hk.2) (.string ((rd_T38 l0 x11_1).f1))) (fun _ hk => ⟨hk.1.1, hk.1.2⟩))); (case aS => exact (below_size (by repeat (first | (with_reducible first | exact HB.out | apply below_alloc | apply pw_below_drewN | apply below_drew1 | refine below_set ?_ GE238.out | refine below_set ?_ GE243.out) | exact HB.out)))); (case aL => have := LMc13.out; omega); intro v245 w18 ho hb hg hat; rw [← Ny244.out] at ho; have n0_ := Aside0.mk (blk_grown (g := gb238) (o := .cells #[.int .u16 a1_0, .string a1_1] 38 (0, 0)) (by (with_reducible repeat (first | refine blk_drewN ?_ _ | refine blk_drew ?_ | refine blk_alloc ?_ _)); refine blk_far ?_ NB238_243.out _; (with_reducible repeat (first | refine blk_drewN ?_ _ | refine blk_drew ?_ | refine blk_alloc ?_ _)); refine blk_far ?_ NB238_243.out _; (with_reducible repeat (first | refine blk_drewN ?_ _ | refine blk_drew ?_ | refine blk_alloc ?_ _)); exact BK238.out) hg (Kd.R_away HO_5.out (fun _ hk => hk.1))); have n1_ := Aside0.mk (blk_grown (g := gb243) (o := .cells #[.int .u16 ((rd_T38 l0 x11_1).f0), .string ((rd_T38 l0 x11_1).f1)] 38 (0, 0)) (by (with_reducible repeat (first | refine blk_drewN ?_ _ | refine blk_drew ?_ | refine blk_alloc ?_ _)); refine blk_put (cs := #[.int .u16 ((rd_T38 l0 x11_1).f0), .string (⟨#[]⟩ : ByteArray)]) ?_ 1 _ rfl; (with_reducible repeat (first | refine blk_drewN ?_ _ | refine blk_drew ?_ | refine blk_alloc ?_ _)); refine blk_put (cs := #[.int .u16 0, .string (⟨#[]⟩ : ByteArray)]) ?_ 0 _ rfl; (with_reducible repeat (first | refine blk_drewN ?_ _ | refine blk_drew ?_ | refine blk_alloc ?_ _)); exact BK243.out) hg (Kd.R_away HO_5.out (fun _ hk => hk.2))); have n2_ := Aside0.mk (hb); have n3_ := Aside0.mk (ho); clear BK238; clear BK243; clear HB; clear HO_5; have BK238 := n0_; have BK243 := n1_; have HB := n2_; have HO246 := n3_; clear n0_ n1_ n2_ n3_; clear ho hb hg hat))
                  go_roundg k1
                  case measure => have := HK1.out; omega
                  case rel => exact ⟨(y244), (true), (wrap64 (x11_1 + 1)), (by first | rfl | (simp; done) | (simp [*]; done)), (by first | rfl | (simp; done) | (simp [*]; done)), H', ⟨by have := HK1.out; omega⟩, ⟨by (with_reducible repeat (first | apply Kd.R_alloc | apply Kd.R_drewN | apply Kd.R_drew)); exact Kd.R_mono HO246.out (fun _ hk => hk.1)⟩, ⟨by (with_reducible repeat (first | refine blk_drewN ?_ _ | refine blk_drew ?_ | refine blk_alloc ?_ _)); exact BK238.out⟩, ⟨by repeat (first | (with_reducible first | exact HB.out | apply below_alloc | apply pw_below_drewN | apply below_drew1 | refine below_set ?_ GE238.out | refine below_set ?_ GE243.out) | exact HB.out)⟩⟩
                · rw [if_neg c13] at H
                  exact absurd H (by simp)
            · rw [if_neg c7] at H
              have c7b0 : (((rd_T38 l0 x11_1).f0) == a1_0) = false := beq_eq_false_iff_ne.mpr c7
              have c7b1 : (((rd_T38 l0 x11_1).f0) != a1_0) = true := bne_iff_ne.mpr c7
              by_cases c19 : x5_1.length < 5864062014805
              · rw [if_pos c19] at H
                have LMc19 := Aside0.mk c19
                clear c19
                obtain ⟨y247, hy247⟩ : ∃ y_ : List (S38), y_ = (x5_1 ++ [(⟨(rd_T38 l0 x11_1).f0, (rd_T38 l0 x11_1).f1⟩ : S38)]) := ⟨_, rfl⟩
                replace H : (portmanteauref13_Put.l0 k1 y247 x6_1 l0 (l0.length : Int) (wrap64 (x11_1 + 1)) a1_0 a1_1) = some r := by first | (rw [hy247]; with_reducible exact H) | (have H2_ := (Option.bind_some _ _).symm.trans H; rw [hy247]; with_reducible exact H2_) | (have H2_ := (Option.bind_some _ _).symm.trans H; with_reducible exact H2_) | with_reducible exact H | (rw [hy247]; exact H) | exact H
                have Ny247 := Aside0.mk hy247
                clear hy247
                have H' := Aside0.mk H
                clear H
                have p242 : 0 ≤ (x11_1 : Int) := of_decide_eq_true (by first | (with_reducible assumption) | assumption)
                have q242 : x11_1 < (l0.length : Int) := of_decide_eq_true (by first | (with_reducible assumption) | assumption)
                obtain ⟨ad242, e242, hx242_0, hx242_1⟩ := at_T38 HR0.out x11_1 p242 q242
                cases e242
                replace hx242_0 := (HB.out.cell (World.block_lt_of_cell? w _ hx242_0)).trans hx242_0
                replace hx242_1 := (HB.out.cell (World.block_lt_of_cell? w _ hx242_1)).trans hx242_1
                replace p242 := eq_true p242
                replace q242 := eq_true q242
                go_wp2_with (first | ((with_reducible refine gate_dst (N := 8) rfl ?_); refine box_event ?hg (N := 8) ?hd (cs := #[.int .u16 0, .string (⟨#[]⟩ : ByteArray)]) (t := 38) ?hr ?_; (case hd => rfl); (case hg => rfl); (case hr => first | (go_simp; done) | (go_simp; rfl)); intro gb243 hg w20 hbox hb; have n0_ := Aside0.mk (Kd.R_below (Kd.R_elderB (by (with_reducible repeat (first | apply Kd.R_alloc | apply Kd.R_drewN | apply Kd.R_drew)); exact HO_5.out) gb243 (Nat.le_of_eq hg.symm)) hb); have n1_ := Aside0.mk (blk_below (g := gb238) (o := .cells #[.int .u16 a1_0, .string a1_1] 38 (0, 0)) (by (with_reducible repeat (first | refine blk_drewN ?_ _ | refine blk_drew ?_ | refine blk_alloc ?_ _)); exact BK238.out) hb); have n2_ := Aside0.mk (below_step (by repeat (first | (with_reducible first | exact HB.out | apply below_alloc | apply pw_below_drewN | apply below_drew1 | refine below_set ?_ GE238.out) | exact HB.out)) hb); have n3_ := Aside0.mk (hbox); have n4_ := Aside0.mk ((by rw [hg]; exact (below_size (by repeat (first | (with_reducible first | exact HB.out | apply below_alloc | apply pw_below_drewN | apply below_drew1 | refine below_set ?_ GE238.out) | exact HB.out))) : w.heap.size ≤ gb243)); have n5_ := Aside0.mk ((by rw [hg]; exact (below_size (by repeat (first | (with_reducible first | exact HB.out | apply below_alloc | apply pw_below_drewN | apply below_drew1 | refine below_set ?_ GE238.out) | exact HB.out))) : w.heap.size ≤ gb243)); have n6_ := Aside0.mk ((by rw [hg]; exact Nat.ne_of_lt (blk_lt (g := gb238) (o := .cells #[.int .u16 a1_0, .string a1_1] 38 (0, 0)) (by (with_reducible repeat (first | refine blk_drewN ?_ _ | refine blk_drew ?_ | refine blk_alloc ?_ _)); exact BK238.out)) : gb238 ≠ gb243)); have n7_ := Aside0.mk ((by rw [hg]; exact Nat.ne_of_gt (blk_lt (g := gb238) (o := .cells #[.int .u16 a1_0, .string a1_1] 38 (0, 0)) (by (with_reducible repeat (first | refine blk_drewN ?_ _ | refine blk_drew ?_ | refine blk_alloc ?_ _)); exact BK238.out)) : gb243 ≠ gb238)); clear HO_5; clear BK238; clear HB; have HO_5 := n0_; have BK238 := n1_; have HB := n2_; have BK243 := n3_; have GW243 := n4_; have GE243 := n5_; have NB238_243 := n6_; have NB243_238 := n7_; clear n0_ n1_ n2_ n3_ n4_ n5_ n6_ n7_; clear hb hbox hg; have hnb21 := NB243_238.out; have hnc21 := NB238_243.out; have hcz22_0 : w20.cell? ⟨gb243, 0, none⟩ = some (.int .u16 0) := (blk_cell BK243.out 0).trans rfl; have hcz22_1 : w20.cell? ⟨gb243, 1, none⟩ = some (.string (⟨#[]⟩ : ByteArray)) := (blk_cell BK243.out 1).trans rfl; have hfz22_0 := blk_frozen BK243.out 0; have hfz22_1 := blk_frozen BK243.out 1; have hcz23_0 : w20.cell? ⟨gb238, 0, none⟩ = some (.int .u16 a1_0) := (blk_cell BK238.out 0).trans rfl; have hcz23_1 : w20.cell? ⟨gb238, 1, none⟩ = some (.string a1_1) := (blk_cell BK238.out 1).trans rfl; have hfz23_0 := blk_frozen BK238.out 0; have hfz23_1 := blk_frozen BK238.out 1) | ((with_reducible refine gate_builtin (b := .append) (xs := #[.tmp 20, .tmp 22]) rfl ?_); at_builtin; refine Kd.R_append k38 (w0 := w) w.heap.size rfl (.tmp 20) (.tmp 22) 22 38 (.agg #[(.int .u16 0), (.string ⟨#[]⟩)]) 24 rfl Try.underlying22 info38 rfl (by decide) (by omega) u5 x5_1 (⟨(rd_T38 l0 x11_1).f0, (rd_T38 l0 x11_1).f1⟩ : S38) [.int .u16 ((rd_T38 l0 x11_1).f0), .string ((rd_T38 l0 x11_1).f1)] (fun k_ => k_ ≠ gb238 ∧ k_ ≠ gb243) (fun _ => False) rfl (by first | (go_simp; done) | (go_simp; rfl)) ?aP (fun _ hk => hk.elim) ?aF ?aO ?aB ?aS ?aL ?_; (case aP => exact k38_mkM _ _ _ (⟨(rd_T38 l0 x11_1).f0, (rd_T38 l0 x11_1).f1⟩ : S38)); (case aB => exact (by repeat (first | (with_reducible first | exact HB.out | apply below_alloc | apply pw_below_drewN | apply below_drew1 | refine below_set ?_ GE238.out | refine below_set ?_ GE243.out) | exact HB.out))); (case aF => exact (fun k_ hk => ⟨Kd.freshB (g := gb238) (o := .cells #[.int .u16 a1_0, .string a1_1] 38 (0, 0)) (by (with_reducible repeat (first | refine blk_drewN ?_ _ | refine blk_drew ?_ | refine blk_alloc ?_ _)); refine blk_far ?_ NB238_243.out _; (with_reducible repeat (first | refine blk_drewN ?_ _ | refine blk_drew ?_ | refine blk_alloc ?_ _)); refine blk_far ?_ NB238_243.out _; (with_reducible repeat (first | refine blk_drewN ?_ _ | refine blk_drew ?_ | refine blk_alloc ?_ _)); exact BK238.out) k_ hk, Kd.freshB (g := gb243) (o := .cells #[.int .u16 ((rd_T38 l0 x11_1).f0), .string ((rd_T38 l0 x11_1).f1)] 38 (0, 0)) (by (with_reducible repeat (first | refine blk_drewN ?_ _ | refine blk_drew ?_ | refine blk_alloc ?_ _)); refine blk_put (cs := #[.int .u16 ((rd_T38 l0 x11_1).f0), .string (⟨#[]⟩ : ByteArray)]) ?_ 1 _ rfl; (with_reducible repeat (first | refine blk_drewN ?_ _ | refine blk_drew ?_ | refine blk_alloc ?_ _)); refine blk_put (cs := #[.int .u16 0, .string (⟨#[]⟩ : ByteArray)]) ?_ 0 _ rfl; (with_reducible repeat (first | refine blk_drewN ?_ _ | refine blk_drew ?_ | refine blk_alloc ?_ _)); exact BK243.out) k_ hk⟩)); (case aO => exact (by (with_reducible repeat (first | apply Kd.R_alloc | apply Kd.R_drewN | apply Kd.R_drew)); exact Kd.R_mono (Kd.R_far (p := ⟨gb243, 1, none⟩) (Kd.R_far (p := ⟨gb243, 0, none⟩) (Kd.R_mono HO_5.out (fun k_ hk => (⟨hk, hk.2⟩ : _ ∧ k_ ≠ gb243))) (fun _ hk => hk.2) (.int .u16 ((rd_T38 l0 x11_1).f0))) (fun _ hk => hk.2) (.string ((rd_T38 l0 x11_1).f1))) (fun _ hk => ⟨hk.1.1, hk.1.2⟩))); (case aS => exact (below_size (by repeat (first | (with_reducible first | exact HB.out | apply below_alloc | apply pw_below_drewN | apply below_drew1 | refine below_set ?_ GE238.out | refine below_set ?_ GE243.out) | exact HB.out)))); (case aL => have := LMc19.out; omega); intro v248 w24 ho hb hg hat; rw [← Ny247.out] at ho; have n0_ := Aside0.mk (blk_grown (g := gb238) (o := .cells #[.int .u16 a1_0, .string a1_1] 38 (0, 0)) (by (with_reducible repeat (first | refine blk_drewN ?_ _ | refine blk_drew ?_ | refine blk_alloc ?_ _)); refine blk_far ?_ NB238_243.out _; (with_reducible repeat (first | refine blk_drewN ?_ _ | refine blk_drew ?_ | refine blk_alloc ?_ _)); refine blk_far ?_ NB238_243.out _; (with_reducible repeat (first | refine blk_drewN ?_ _ | refine blk_drew ?_ | refine blk_alloc ?_ _)); exact BK238.out) hg (Kd.R_away HO_5.out (fun _ hk => hk.1))); have n1_ := Aside0.mk (blk_grown (g := gb243) (o := .cells #[.int .u16 ((rd_T38 l0 x11_1).f0), .string ((rd_T38 l0 x11_1).f1)] 38 (0, 0)) (by (with_reducible repeat (first | refine blk_drewN ?_ _ | refine blk_drew ?_ | refine blk_alloc ?_ _)); refine blk_put (cs := #[.int .u16 ((rd_T38 l0 x11_1).f0), .string (⟨#[]⟩ : ByteArray)]) ?_ 1 _ rfl; (with_reducible repeat (first | refine blk_drewN ?_ _ | refine blk_drew ?_ | refine blk_alloc ?_ _)); refine blk_put (cs := #[.int .u16 0, .string (⟨#[]⟩ : ByteArray)]) ?_ 0 _ rfl; (with_reducible repeat (first | refine blk_drewN ?_ _ | refine blk_drew ?_ | refine blk_alloc ?_ _)); exact BK243.out) hg (Kd.R_away HO_5.out (fun _ hk => hk.2))); have n2_ := Aside0.mk (hb); have n3_ := Aside0.mk (ho); clear BK238; clear BK243; clear HB; clear HO_5; have BK238 := n0_; have BK243 := n1_; have HB := n2_; have HO249 := n3_; clear n0_ n1_ n2_ n3_; clear ho hb hg hat))
                go_roundg k1
                case measure => have := HK1.out; omega
                case rel => exact ⟨(y247), (x6_1), (wrap64 (x11_1 + 1)), (by first | rfl | (simp; done) | (simp [*]; done)), (by first | rfl | (simp; done) | (simp [*]; done)), H', ⟨by have := HK1.out; omega⟩, ⟨by (with_reducible repeat (first | apply Kd.R_alloc | apply Kd.R_drewN | apply Kd.R_drew)); exact Kd.R_mono HO249.out (fun _ hk => hk.1)⟩, ⟨by (with_reducible repeat (first | refine blk_drewN ?_ _ | refine blk_drew ?_ | refine blk_alloc ?_ _)); exact BK238.out⟩, ⟨by repeat (first | (with_reducible first | exact HB.out | apply below_alloc | apply pw_below_drewN | apply below_drew1 | refine below_set ?_ GE238.out | refine below_set ?_ GE243.out) | exact HB.out)⟩⟩
              · rw [if_neg c19] at H
                exact absurd H (by simp)
          · rw [if_neg c6] at H
            exact absurd H (by simp)
        · rw [if_neg c5] at H
          exact absurd H (by simp)
      · rw [if_neg c4] at H
        have c4b0 : decide (x11_1 < (l0.length : Int)) = false := decide_eq_false c4
        clear c4
        by_cases c25 : x6_1 = true
        · subst c25
          have H1 : (some x5_1) = some r := by rw [if_pos rfl] at H; exact H
          clear H
          have H := H1
          clear H1
          obtain rfl := Option.some.inj H
          go_wp2
          go_ret
          exact ⟨_, by first | rfl | (simp [errW_none, errW_some] <;> rfl) | (simp [*, errW_none, errW_some] <;> rfl), by (with_reducible repeat (first | apply Kd.R_alloc | apply Kd.R_drewN | apply Kd.R_drew)); exact Kd.R_mono HO_5.out (fun _ hk => trivial), by repeat (first | (with_reducible first | exact HB.out | apply below_alloc | apply pw_below_drewN | apply below_drew1 | refine below_set ?_ GE238.out) | exact HB.out)⟩
        · replace c25 := Bool.eq_false_iff.mpr c25
          subst c25
          have H1 : (if x5_1.length < 5864062014805 then (some (x5_1 ++ [(⟨a1_0, a1_1⟩ : S38)])) else (none)) = some r := by rw [if_neg (show ¬ (false = true) by decide)] at H; exact H
          clear H
          have H := H1
          clear H1
          by_cases c26 : x5_1.length < 5864062014805
          · rw [if_pos c26] at H
            have LMc26 := Aside0.mk c26
            clear c26
            obtain ⟨y239, hy239⟩ : ∃ y_ : List (S38), y_ = (x5_1 ++ [(⟨a1_0, a1_1⟩ : S38)]) := ⟨_, rfl⟩
            replace H : (some y239) = some r := by first | (rw [hy239]; with_reducible exact H) | (have H2_ := (Option.bind_some _ _).symm.trans H; rw [hy239]; with_reducible exact H2_) | (have H2_ := (Option.bind_some _ _).symm.trans H; with_reducible exact H2_) | with_reducible exact H | (rw [hy239]; exact H) | exact H
            have Ny239 := Aside0.mk hy239
            clear hy239
            obtain rfl := Option.some.inj H
            have hcz27_0 : wr.cell? ⟨gb238, 0, none⟩ = some (.int .u16 a1_0) := (blk_cell BK238.out 0).trans rfl
            have hcz27_1 : wr.cell? ⟨gb238, 1, none⟩ = some (.string a1_1) := (blk_cell BK238.out 1).trans rfl
            have hfz27_0 := blk_frozen BK238.out 0
            have hfz27_1 := blk_frozen BK238.out 1
            go_wp2_with (first | ((with_reducible refine gate_builtin (b := .append) (xs := #[.tmp 33, .tmp 35]) rfl ?_); at_builtin; refine Kd.R_append k38 (w0 := w) w.heap.size rfl (.tmp 33) (.tmp 35) 22 38 (.agg #[(.int .u16 0), (.string ⟨#[]⟩)]) 24 rfl Try.underlying22 info38 rfl (by decide) (by omega) u5 x5_1 (⟨a1_0, a1_1⟩ : S38) [.int .u16 a1_0, .string a1_1] (fun k_ => k_ ≠ gb238) (fun _ => False) rfl rfl ?aP (fun _ hk => hk.elim) ?aF ?aO ?aB ?aS ?aL ?_; (case aP => exact k38_mkM _ _ _ (⟨a1_0, a1_1⟩ : S38)); (case aB => exact (by repeat (first | (with_reducible first | exact HB.out | apply below_alloc | apply pw_below_drewN | apply below_drew1 | refine below_set ?_ GE238.out) | exact HB.out))); (case aF => exact (fun k_ hk => Kd.freshB (g := gb238) (o := .cells #[.int .u16 a1_0, .string a1_1] 38 (0, 0)) (by (with_reducible repeat (first | refine blk_drewN ?_ _ | refine blk_drew ?_ | refine blk_alloc ?_ _)); exact BK238.out) k_ hk)); (case aO => exact (by (with_reducible repeat (first | apply Kd.R_alloc | apply Kd.R_drewN | apply Kd.R_drew)); exact HO_5.out)); (case aS => exact (below_size (by repeat (first | (with_reducible first | exact HB.out | apply below_alloc | apply pw_below_drewN | apply below_drew1 | refine below_set ?_ GE238.out) | exact HB.out)))); (case aL => have := LMc26.out; omega); intro v240 w28 ho hb hg hat; rw [← Ny239.out] at ho; have n0_ := Aside0.mk (blk_grown (g := gb238) (o := .cells #[.int .u16 a1_0, .string a1_1] 38 (0, 0)) (by (with_reducible repeat (first | refine blk_drewN ?_ _ | refine blk_drew ?_ | refine blk_alloc ?_ _)); exact BK238.out) hg (Kd.R_away HO_5.out (fun _ hk => hk))); have n1_ := Aside0.mk (hb); have n2_ := Aside0.mk (ho); clear BK238; clear HB; clear HO_5; have BK238 := n0_; have HB := n1_; have HO241 := n2_; clear n0_ n1_ n2_; clear ho hb hg hat))
            go_ret
            exact ⟨_, by first | rfl | (simp [errW_none, errW_some] <;> rfl) | (simp [*, errW_none, errW_some] <;> rfl), by (with_reducible repeat (first | apply Kd.R_alloc | apply Kd.R_drewN | apply Kd.R_drew)); exact Kd.R_mono HO241.out (fun _ hk => trivial), by repeat (first | (with_reducible first | exact HB.out | apply below_alloc | apply pw_below_drewN | apply below_drew1 | refine below_set ?_ GE238.out) | exact HB.out)⟩
          · rw [if_neg c26] at H
            exact absurd H (by simp)

-- NOT PRINTED: function 4 (portmanteaulaw13_ExtraDoes)

end Go.Proofs.Ytdlcihbfdbdbbaa.P
