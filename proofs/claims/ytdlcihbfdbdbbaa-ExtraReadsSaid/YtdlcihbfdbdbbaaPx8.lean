/- Written by a program of this session (wip/print2: a patched copy of a printer), not by print.sh: Lean functions with the answers of the Go functions, and the proofs of that; no condition beside those that stand in each theorem. -/
import Derived.Test.YtdlcihbfdbdbbaaPx0
import Derived.Test.YtdlcihbfdbdbbaaPx7
namespace Go.Proofs.Ytdlcihbfdbdbbaa.P
open Go.RowKit Go.Proofs.YtdlcihbfdbdbbaaW.PrintWords Go.Proofs.YtdlcihbfdbdbbaaW.PrintLast Go.Proofs.YtdlcihbfdbdbbaaW.PrintMore
attribute [local go_sem] max2_int min2_int max_two min_two max_three min_three max_four min_four   -- for this text's walks alone
set_option linter.unusedVariables false
set_option linter.unusedSimpArgs false

/-! ### portmanteauref13_Print: function 11 -/
mutual
def portmanteauref13_Print.l0 : Nat → ByteArray → List (S38) → Int → Int → Option (ByteArray × Int)
  | 0, _, _, _, _ => none
  | k + 1, x4, x7, x8, x9 => if x9 < x8 then (if 0 ≤ x9 then (if x9 < (x7.length : Int) then (if (((rd_T38 x7 x9).f1).size : Int) > 65535 then (portmanteauref13_Print.j1 k x4 x7 x8 x9 true ((rd_T38 x7 x9).f0) ((rd_T38 x7 x9).f1)) else (portmanteauref13_Print.j1 k x4 x7 x8 x9 (decide ((wrap64 ((wrap64 ((x4.size : Int) + 4)) + (((rd_T38 x7 x9).f1).size : Int))) > 65535)) ((rd_T38 x7 x9).f0) ((rd_T38 x7 x9).f1))) else (none)) else (none)) else (some (x4, 0))
def portmanteauref13_Print.j1 : Nat → ByteArray → List (S38) → Int → Int → Bool → Int → ByteArray → Option (ByteArray × Int)
  | 0, _, _, _, _, _, _, _ => none
  | k + 1, x4, x7, x8, x9, x26, x162000, x162001 => if x26 = true then (some ((⟨#[]⟩ : ByteArray), 5)) else ((portmanteauref01_Of.f k (IntKind.u64.wrap (x162000)) 2).bind fun t162 => (if x4.size + t162.size ≤ 9223372036854775807 then ((portmanteauref01_Of.f k (IntKind.u64.wrap ((x162001.size : Int))) 2).bind fun t163 => (if x4.size + t162.size + t163.size ≤ 9223372036854775807 then (if x4.size + t162.size + t163.size + x162001.size ≤ 9223372036854775807 then (portmanteauref13_Print.l0 k (((x4 ++ t162) ++ t163) ++ x162001) x7 x8 (wrap64 (x9 + 1))) else (none)) else (none))) else (none)))
end
def portmanteauref13_Print.f (k : Nat) (l0 : List (S38)) : Option (ByteArray × Int) := portmanteauref13_Print.l0 k (⟨#[]⟩ : ByteArray) l0 (l0.length : Int) 0
theorem portmanteauref13_Print.mono_l : ∀ k, (∀ y0 y1 y2 y3, LeO (portmanteauref13_Print.l0 k y0 y1 y2 y3) (portmanteauref13_Print.l0 (k + 1) y0 y1 y2 y3)) ∧ (∀ y0 y1 y2 y3 y4 y5 y6, LeO (portmanteauref13_Print.j1 k y0 y1 y2 y3 y4 y5 y6) (portmanteauref13_Print.j1 (k + 1) y0 y1 y2 y3 y4 y5 y6))
  | 0 => ⟨fun _ _ _ _ r h => by simp [portmanteauref13_Print.l0] at h, fun _ _ _ _ _ _ _ r h => by simp [portmanteauref13_Print.j1] at h⟩
  | k + 1 => by
    obtain ⟨ih0, ih1⟩ := portmanteauref13_Print.mono_l k
    refine ⟨?_, ?_⟩
    · intro y0 y1 y2 y3
      unfold portmanteauref13_Print.l0
      repeat' first
      | (with_reducible exact ih0 _ _ _ _)
      | (with_reducible exact ih1 _ _ _ _ _ _ _)
      | (with_reducible exact portmanteauref01_Of.mono _ _ _)
      | (with_reducible exact LeO.refl _)
      | (with_reducible exact LeO.none _)
      | (with_reducible refine LeO.ite ?_ ?_)
      | (with_reducible refine LeO.bind ?_ (fun _ => ?_))
      | exact ih0 _ _ _ _
      | exact ih1 _ _ _ _ _ _ _
      | exact portmanteauref01_Of.mono _ _ _
      | exact LeO.none _
      | refine LeO.ite ?_ ?_
      | refine LeO.bind ?_ (fun _ => ?_)
    · intro y0 y1 y2 y3 y4 y5 y6
      unfold portmanteauref13_Print.j1
      repeat' first
      | (with_reducible exact ih0 _ _ _ _)
      | (with_reducible exact ih1 _ _ _ _ _ _ _)
      | (with_reducible exact portmanteauref01_Of.mono _ _ _)
      | (with_reducible exact LeO.refl _)
      | (with_reducible exact LeO.none _)
      | (with_reducible refine LeO.ite ?_ ?_)
      | (with_reducible refine LeO.bind ?_ (fun _ => ?_))
      | exact ih0 _ _ _ _
      | exact ih1 _ _ _ _ _ _ _
      | exact portmanteauref01_Of.mono _ _ _
      | exact LeO.none _
      | refine LeO.ite ?_ ?_
      | refine LeO.bind ?_ (fun _ => ?_)
theorem portmanteauref13_Print.mono : ∀ a0 k, LeO (portmanteauref13_Print.f k a0) (portmanteauref13_Print.f (k + 1) a0) := by
  intro a0 k
  obtain ⟨ih0, ih1⟩ := portmanteauref13_Print.mono_l k
  unfold portmanteauref13_Print.f
  repeat' first
      | (with_reducible exact ih0 _ _ _ _)
      | (with_reducible exact ih1 _ _ _ _ _ _ _)
      | (with_reducible exact portmanteauref01_Of.mono _ _ _)
      | (with_reducible exact LeO.refl _)
      | (with_reducible exact LeO.none _)
      | (with_reducible refine LeO.ite ?_ ?_)
      | (with_reducible refine LeO.bind ?_ (fun _ => ?_))
      | exact ih0 _ _ _ _
      | exact ih1 _ _ _ _ _ _ _
      | exact portmanteauref01_Of.mono _ _ _
      | exact LeO.none _
      | refine LeO.ite ?_ ?_
      | refine LeO.bind ?_ (fun _ => ?_)
def portmanteauref13_Print.T7 : Bool × List (List Nat × List Nat) := (true, [([], []), ([], []), ([1], [1]), ([2], [2]), ([3], [3]), ([0, 4], [0, 4]), ([], []), ([6], [6]), ([7], [7]), ([8], [8]), ([9, 4], [9]), ([5, 10], [5, 10]), ([], []), ([12], [12]), ([11, 13], [11, 13]), ([14, 10, 0, 1, 2, 3, 4, 5, 6, 7, 8, 9, 10, 11, 12, 13, 14], [0, 14])])
def portmanteauref13_Print.B7 : List Nat := [0, 0, 2, 6, 14, 31, 0, 64, 192, 448, 990, 2047, 0, 4096, 16383, 32767]
theorem portmanteauref13_Print.tab7 : rtab .any (opsOf Try.f11 7) = portmanteauref13_Print.T7 := by kernel_rfl
theorem portmanteauref13_Print.bits7 : waitsOk portmanteauref13_Print.T7.2 portmanteauref13_Print.B7 = true := by kernel_rfl
set_option maxHeartbeats 8000000 in
set_option maxRecDepth 100000 in
theorem portmanteauref13_Print.calls (k : Nat) (A0 : Option Addr) (c0 : Nat) (l0 : List (S38)) (r1 : ByteArray) (r2 : Int) (w : World) (hr0 : Kd.C k38 w A0 l0.length l0) (hc0 : l0.length ≤ c0) (h : portmanteauref13_Print.f k l0 = some (r1, r2)) :
    Calls Try.prog 11 #[.slice A0 l0.length c0] w fun e w' => e = .returned (.tuple #[.string r1, .int .i64 r2]) ∧ Below w.heap.size w w' := by
  have hu38 := Try.underlying38
  have HR0 := Aside0.mk hr0
  have HC0 := Aside0.mk hc0
  clear hr0 hc0
  have HB := Aside0.mk (Below.refl w.heap.size w)
  have H : (portmanteauref13_Print.l0 k (⟨#[]⟩ : ByteArray) l0 (l0.length : Int) 0) = some (r1, r2) := h
  clear h
  have H' := Aside0.mk H
  clear H
  go_enter Try.func11, Try.ntmps11
  go_wp2
  go_loopg [4, 9] k (fun kq v4 v9 w' => ∃ (x4_1 : ByteArray) (x9_1 : Int), v4 = .string x4_1 ∧ v9 = .int .i64 x9_1 ∧ Aside0 (portmanteauref13_Print.l0 kq x4_1 l0 (l0.length : Int) x9_1 = some (r1, r2)) ∧ Aside0 (kq ≤ k) ∧ Aside0 (Below w.heap.size w w'))
  case atStart => exact ⟨((⟨#[]⟩ : ByteArray)), (0), (by first | rfl | (simp; done) | (simp [*]; done)), (by first | rfl | (simp; done) | (simp [*]; done)), H', ⟨Nat.le_refl _⟩, ⟨by repeat (first | (with_reducible first | exact HB.out | apply below_alloc | apply pw_below_drewN | apply below_drew1) | exact HB.out)⟩⟩
  case round =>
    clear H'
    try clear c1
    obtain ⟨x4_1, x9_1, rfl, rfl, HA, HK1, HB⟩ := hrel
    cases gk with
    | zero => exact absurd HA.out (by simp [portmanteauref13_Print.l0])
    | succ k1 =>
      have H := HA.out
      clear HA
      simp only [portmanteauref13_Print.l0] at H
      by_cases c2 : x9_1 < (l0.length : Int)
      · rw [if_pos c2] at H
        have c2b0 : decide (x9_1 < (l0.length : Int)) = true := decide_eq_true c2
        clear c2
        by_cases c3 : 0 ≤ x9_1
        · rw [if_pos c3] at H
          have c3b0 : decide (0 ≤ x9_1) = true := decide_eq_true c3
          clear c3
          by_cases c4 : x9_1 < (l0.length : Int)
          · rw [if_pos c4] at H
            have c4b0 : decide (x9_1 < (l0.length : Int)) = true := decide_eq_true c4
            clear c4
            have HC5 := Aside0.mk H
            clear H
            have p160 : 0 ≤ (x9_1 : Int) := of_decide_eq_true (by first | (with_reducible assumption) | assumption)
            have q160 : x9_1 < (l0.length : Int) := of_decide_eq_true (by first | (with_reducible assumption) | assumption)
            obtain ⟨ad160, e160, hx160_0, hx160_1⟩ := at_T38 HR0.out x9_1 p160 q160
            cases e160
            replace hx160_0 := (HB.out.cell (World.block_lt_of_cell? w _ hx160_0)).trans hx160_0
            replace hx160_1 := (HB.out.cell (World.block_lt_of_cell? w _ hx160_1)).trans hx160_1
            replace p160 := eq_true p160
            replace q160 := eq_true q160
            go_upto_region 5 with (first | ((with_reducible refine gate_dst (N := 6) rfl ?_); (try (refine gate_guard (by rfl) ?_; dsimp only)); refine box_event ?hg (N := 6) ?hd (cs := #[.int .u16 0, .string (⟨#[]⟩ : ByteArray)]) (t := 38) ?hr ?_; (case hd => rfl); (case hg => rfl); (case hr => first | (go_simp; done) | (go_simp; rfl)); intro gb161 hg w6 hbox hb; have n0_ := Aside0.mk (below_step (by repeat (first | (with_reducible first | exact HB.out | apply below_alloc | apply pw_below_drewN | apply below_drew1) | exact HB.out)) hb); have n1_ := Aside0.mk (hbox); have n2_ := Aside0.mk ((by rw [hg]; exact (below_size (by repeat (first | (with_reducible first | exact HB.out | apply below_alloc | apply pw_below_drewN | apply below_drew1) | exact HB.out))) : w.heap.size ≤ gb161)); have n3_ := Aside0.mk ((by rw [hg]; exact (below_size (by repeat (first | (with_reducible first | exact HB.out | apply below_alloc | apply pw_below_drewN | apply below_drew1) | exact HB.out))) : w.heap.size ≤ gb161)); clear HB; have HB := n0_; have BK161 := n1_; have GW161 := n2_; have GE161 := n3_; clear n0_ n1_ n2_ n3_; clear hb hbox hg; have hcz7_0 : w6.cell? ⟨gb161, 0, none⟩ = some (.int .u16 0) := (blk_cell BK161.out 0).trans rfl; have hcz7_1 : w6.cell? ⟨gb161, 1, none⟩ = some (.string (⟨#[]⟩ : ByteArray)) := (blk_cell BK161.out 1).trans rfl; have hfz7_0 := blk_frozen BK161.out 0; have hfz7_1 := blk_frozen BK161.out 1))
            (try simp only [Act.put, List.setIfInBounds_toArray, List.set_cons_zero, List.set_cons_succ])
            go_cut [26] (fun v26 wc => ∃ (kq : Nat) (x26_4 : Bool), v26 = .bool x26_4 ∧ Aside0 (portmanteauref13_Print.j1 kq x4_1 l0 (l0.length : Int) x9_1 x26_4 ((rd_T38 l0 x9_1).f0) ((rd_T38 l0 x9_1).f1) = some (r1, r2)) ∧ Aside0 (kq ≤ k1) ∧ Aside0 (wc.heap[gb161]? = some (.cells #[.int .u16 ((rd_T38 l0 x9_1).f0), .string ((rd_T38 l0 x9_1).f1)] 38 (0, 0))) ∧ Aside0 (Below w.heap.size w wc))
            case first =>
              have H := HC5.out
              clear HC5
              by_cases c8 : (((rd_T38 l0 x9_1).f1).size : Int) > 65535
              · rw [if_pos c8] at H
                have c8b0 : decide (65535 < (((rd_T38 l0 x9_1).f1).size : Int)) = true := decide_eq_true c8
                have c8b1 : decide (65535 < ((rd_T38 l0 x9_1).f1).size) = true := decide_eq_true (by omega)
                clear c8
                (first | rw [c8b0] | (simp only [i64_w, i32_w]; rw [c8b0]) | skip)
                have H' := Aside0.mk H
                clear H
                have hcz9_0 : w6.cell? ⟨gb161, 0, none⟩ = some (.int .u16 0) := (blk_cell BK161.out 0).trans rfl
                have hcz9_1 : w6.cell? ⟨gb161, 1, none⟩ = some (.string (⟨#[]⟩ : ByteArray)) := (blk_cell BK161.out 1).trans rfl
                have hfz9_0 := blk_frozen BK161.out 0
                have hfz9_1 := blk_frozen BK161.out 1
                go_wp2
                go_meet
                case rel => exact ⟨_, (true), (by first | rfl | (simp; done) | (simp [*]; done)), H', ⟨by have := HK1.out; first | omega | exact Nat.le_refl _⟩, ⟨by (with_reducible repeat (first | refine blk_drewN ?_ _ | refine blk_drew ?_ | refine blk_alloc ?_ _)); refine blk_put (cs := #[.int .u16 ((rd_T38 l0 x9_1).f0), .string (⟨#[]⟩ : ByteArray)]) ?_ 1 _ rfl; (with_reducible repeat (first | refine blk_drewN ?_ _ | refine blk_drew ?_ | refine blk_alloc ?_ _)); refine blk_put (cs := #[.int .u16 0, .string (⟨#[]⟩ : ByteArray)]) ?_ 0 _ rfl; (with_reducible repeat (first | refine blk_drewN ?_ _ | refine blk_drew ?_ | refine blk_alloc ?_ _)); exact BK161.out⟩, ⟨by repeat (first | (with_reducible first | exact HB.out | apply below_alloc | apply pw_below_drewN | apply below_drew1 | refine below_set ?_ GE161.out) | exact HB.out)⟩⟩
              · rw [if_neg c8] at H
                have c8b0 : decide (65535 < (((rd_T38 l0 x9_1).f1).size : Int)) = false := decide_eq_false c8
                have c8b1 : decide (65535 < ((rd_T38 l0 x9_1).f1).size) = false := decide_eq_false (by omega)
                clear c8
                (first | rw [c8b0] | (simp only [i64_w, i32_w]; rw [c8b0]) | skip)
                have H' := Aside0.mk H
                clear H
                have hcz10_0 : w6.cell? ⟨gb161, 0, none⟩ = some (.int .u16 0) := (blk_cell BK161.out 0).trans rfl
                have hcz10_1 : w6.cell? ⟨gb161, 1, none⟩ = some (.string (⟨#[]⟩ : ByteArray)) := (blk_cell BK161.out 1).trans rfl
                have hfz10_0 := blk_frozen BK161.out 0
                have hfz10_1 := blk_frozen BK161.out 1
                go_wp2
                go_meet
                case rel => exact ⟨_, (decide ((wrap64 ((wrap64 ((x4_1.size : Int) + 4)) + (((rd_T38 l0 x9_1).f1).size : Int))) > 65535)), (by first | rfl | (simp; done) | (simp [*]; done)), H', ⟨by have := HK1.out; first | omega | exact Nat.le_refl _⟩, ⟨by (with_reducible repeat (first | refine blk_drewN ?_ _ | refine blk_drew ?_ | refine blk_alloc ?_ _)); refine blk_put (cs := #[.int .u16 ((rd_T38 l0 x9_1).f0), .string (⟨#[]⟩ : ByteArray)]) ?_ 1 _ rfl; (with_reducible repeat (first | refine blk_drewN ?_ _ | refine blk_drew ?_ | refine blk_alloc ?_ _)); refine blk_put (cs := #[.int .u16 0, .string (⟨#[]⟩ : ByteArray)]) ?_ 0 _ rfl; (with_reducible repeat (first | refine blk_drewN ?_ _ | refine blk_drew ?_ | refine blk_alloc ?_ _)); exact BK161.out⟩, ⟨by repeat (first | (with_reducible first | exact HB.out | apply below_alloc | apply pw_below_drewN | apply below_drew1 | refine below_set ?_ GE161.out) | exact HB.out)⟩⟩
            case rest =>
              clear HC5
              try clear c1
              try clear p1
              try clear q1
              try clear hx1
              try clear c2
              try clear c2b0
              try clear p2
              try clear c3
              try clear c3b0
              try clear c4
              try clear c4b0
              try clear p6
              try clear c8
              try clear c8b0
              try clear c8b1
              try clear hcz10_0
              try clear hcz10_1
              try clear hcz7_0
              try clear hcz7_1
              try clear hcz9_0
              try clear hcz9_1
              try clear hfz10_0
              try clear hfz10_1
              try clear hfz7_0
              try clear hfz7_1
              try clear hfz9_0
              try clear hfz9_1
              try clear hx160_0
              try clear hx160_1
              try clear p160
              try clear q160
              obtain ⟨kq, x26_4, rfl, HA, HJ4, BK161, HB⟩ := hcut
              cases kq with
              | zero => exact absurd HA.out (by simp [portmanteauref13_Print.j1])
              | succ kj4 =>
                have H := HA.out
                clear HA
                simp only [portmanteauref13_Print.j1] at H
                by_cases c11 : x26_4 = true
                · subst c11
                  have H1 : (some ((⟨#[]⟩ : ByteArray), 5)) = some (r1, r2) := by rw [if_pos rfl] at H; exact H
                  clear H
                  have H := H1
                  clear H1
                  simp only [Option.some.injEq, Prod.mk.injEq] at H
                  obtain ⟨rfl, rfl⟩ := H
                  go_wp2
                  go_ret2
                  exact ⟨by first | rfl | (simp [errW_none, errW_some] <;> rfl) | (simp [*, errW_none, errW_some] <;> rfl), by repeat (first | (with_reducible first | exact HB.out | apply below_alloc | apply pw_below_drewN | apply below_drew1 | refine below_set ?_ GE161.out) | exact HB.out)⟩
                · replace c11 := Bool.eq_false_iff.mpr c11
                  subst c11
                  have H1 : ((portmanteauref01_Of.f kj4 (IntKind.u64.wrap (((rd_T38 l0 x9_1).f0))) 2).bind fun t162 => (if x4_1.size + t162.size ≤ 9223372036854775807 then ((portmanteauref01_Of.f kj4 (IntKind.u64.wrap ((((rd_T38 l0 x9_1).f1).size : Int))) 2).bind fun t163 => (if x4_1.size + t162.size + t163.size ≤ 9223372036854775807 then (if x4_1.size + t162.size + t163.size + ((rd_T38 l0 x9_1).f1).size ≤ 9223372036854775807 then (portmanteauref13_Print.l0 kj4 (((x4_1 ++ t162) ++ t163) ++ ((rd_T38 l0 x9_1).f1)) l0 (l0.length : Int) (wrap64 (x9_1 + 1))) else (none)) else (none))) else (none))) = some (r1, r2) := by rw [if_neg (show ¬ (false = true) by decide)] at H; exact H
                  clear H
                  have H := H1
                  clear H1
                  replace H := Option.bind_eq_some_iff.mp H
                  obtain ⟨t162, A120, H⟩ := H
                  replace H : (if x4_1.size + t162.size ≤ 9223372036854775807 then ((portmanteauref01_Of.f kj4 (IntKind.u64.wrap ((((rd_T38 l0 x9_1).f1).size : Int))) 2).bind fun t163 => (if x4_1.size + t162.size + t163.size ≤ 9223372036854775807 then (if x4_1.size + t162.size + t163.size + ((rd_T38 l0 x9_1).f1).size ≤ 9223372036854775807 then (portmanteauref13_Print.l0 kj4 (((x4_1 ++ t162) ++ t163) ++ ((rd_T38 l0 x9_1).f1)) l0 (l0.length : Int) (wrap64 (x9_1 + 1))) else (none)) else (none))) else (none)) = some (r1, r2) := H
                  have A12 := Aside0.mk A120
                  clear A120
                  by_cases c13 : x4_1.size + t162.size ≤ 9223372036854775807
                  · rw [if_pos c13] at H
                    have c13b0 := eq_true c13
                    have c13b1 : decide (x4_1.size + t162.size ≤ 9223372036854775807) = true := decide_eq_true c13
                    try have c13b2 : (9223372036854775807 < x4_1.size + t162.size) = False := eq_false (Nat.not_lt.2 c13)
                    replace H := Option.bind_eq_some_iff.mp H
                    obtain ⟨t163, A140, H⟩ := H
                    replace H : (if x4_1.size + t162.size + t163.size ≤ 9223372036854775807 then (if x4_1.size + t162.size + t163.size + ((rd_T38 l0 x9_1).f1).size ≤ 9223372036854775807 then (portmanteauref13_Print.l0 kj4 (((x4_1 ++ t162) ++ t163) ++ ((rd_T38 l0 x9_1).f1)) l0 (l0.length : Int) (wrap64 (x9_1 + 1))) else (none)) else (none)) = some (r1, r2) := H
                    have A14 := Aside0.mk A140
                    clear A140
                    by_cases c15 : x4_1.size + t162.size + t163.size ≤ 9223372036854775807
                    · rw [if_pos c15] at H
                      have c15b0 := eq_true c15
                      have c15b1 : decide (x4_1.size + t162.size + t163.size ≤ 9223372036854775807) = true := decide_eq_true c15
                      try have c15b2 : (9223372036854775807 < x4_1.size + t162.size + t163.size) = False := eq_false (Nat.not_lt.2 c15)
                      by_cases c16 : x4_1.size + t162.size + t163.size + ((rd_T38 l0 x9_1).f1).size ≤ 9223372036854775807
                      · rw [if_pos c16] at H
                        have c16b0 := eq_true c16
                        have c16b1 : decide (x4_1.size + t162.size + t163.size + ((rd_T38 l0 x9_1).f1).size ≤ 9223372036854775807) = true := decide_eq_true c16
                        try have c16b2 : (9223372036854775807 < x4_1.size + t162.size + t163.size + ((rd_T38 l0 x9_1).f1).size) = False := eq_false (Nat.not_lt.2 c16)
                        have H' := Aside0.mk H
                        clear H
                        try go_wp2
                        have n0_ := Aside0.mk (blk_drew BK161.out)
                        have n1_ := Aside0.mk (below_drew1 HB.out)
                        clear BK161
                        clear HB
                        have BK161 := n0_
                        have HB := n1_
                        clear n0_ n1_
                        refine start_ (n := 16) (S := fun w' => w'.cell? ⟨gb161, 0, none⟩ = some (.int .u16 ((rd_T38 l0 x9_1).f0)) ∧ w'.cell? ⟨gb161, 1, none⟩ = some (.string ((rd_T38 l0 x9_1).f1))) (ds := []) #[false, false, false, false, false, false, false, false, false, false, false, false, false, false, false, false] (by kernel_rfl) rfl rfl ⟨(blk_cell BK161.out 0).trans rfl, (blk_cell BK161.out 1).trans rfl⟩ (fun hHeld => ?_); refine with_tabW portmanteauref13_Print.tab7 portmanteauref13_Print.bits7 (fun HT_ HW_ => ?_)
                        generalize wc.drew = w17 at BK161 HB hHeld ⊢
                        refine pure_ (i := 0) (N := some 27) (v := ?_) (a' := ?_) #[true, false, false, false, false, false, false, false, false, false, false, false, false, false, false, false] rfl rfl (any_of HT_.out (by kernel_rfl)) (fun _ _ _ h => h) (Or.inl ⟨by rfl, ?_⟩) ?_ ?_
                        rotate_left
                        · intro w'
                          go_simp
                          with_reducible rfl
                        rotate_left
                        · simp only [Act.put, List.setIfInBounds_toArray, List.set_cons_zero, List.set_cons_succ, i64_w, i32_w]
                          rfl
                        refine pure_ (i := 1) (N := some 28) (v := ?_) (a' := ?_) #[true, true, false, false, false, false, false, false, false, false, false, false, false, false, false, false] rfl rfl (any_of HT_.out (by kernel_rfl)) (fun _ _ _ h => h) (Or.inl ⟨by rfl, ?_⟩) ?_ ?_
                        rotate_left
                        · intro w'
                          go_simp
                          with_reducible rfl
                        rotate_left
                        · simp only [Act.put, List.setIfInBounds_toArray, List.set_cons_zero, List.set_cons_succ, i64_w, i32_w]
                          rfl
                        refine pure_ (i := 6) (N := some 33) (v := ?_) (a' := ?_) #[true, true, false, false, false, false, true, false, false, false, false, false, false, false, false, false] rfl rfl (any_of HT_.out (by kernel_rfl)) (fun _ _ _ h => h) (Or.inl ⟨by rfl, ?_⟩) ?_ ?_
                        rotate_left
                        · intro w'
                          go_simp
                          with_reducible rfl
                        rotate_left
                        · simp only [Act.put, List.setIfInBounds_toArray, List.set_cons_zero, List.set_cons_succ, i64_w, i32_w]
                          rfl
                        refine pure_ (i := 12) (N := some 39) (v := ?_) (a' := ?_) #[true, true, false, false, false, false, true, false, false, false, false, false, true, false, false, false] rfl rfl (any_of HT_.out (by kernel_rfl)) (fun _ _ _ h => h) (Or.inl ⟨by rfl, ?_⟩) ?_ ?_
                        rotate_left
                        · intro w'
                          go_simp
                          with_reducible rfl
                        rotate_left
                        · simp only [Act.put, List.setIfInBounds_toArray, List.set_cons_zero, List.set_cons_succ, i64_w, i32_w]
                          rfl
                        refine take_ (i := 2) (N := some 29) (v := ?_) (a' := ?_) #[true, true, true, false, false, false, true, false, false, false, false, false, true, false, false, false] rfl rfl (take_ofW HT_.out HW_.out (by kernel_rfl)) (fun _ _ _ h => h) (Or.inl ⟨by rfl, ?_⟩) hHeld ?_ ?_
                        rotate_left
                        · rintro w' ⟨s0, s1⟩
                          go_simp
                          with_reducible rfl
                        rotate_left
                        · simp only [Act.put, List.setIfInBounds_toArray, List.set_cons_zero, List.set_cons_succ, i64_w, i32_w]
                          rfl
                        refine pure_ (i := 3) (N := some 30) (v := ?_) (a' := ?_) #[true, true, true, true, false, false, true, false, false, false, false, false, true, false, false, false] rfl rfl (any_of HT_.out (by kernel_rfl)) (fun _ _ _ h => h) (Or.inl ⟨by rfl, ?_⟩) ?_ ?_
                        rotate_left
                        · intro w'
                          go_simp
                          with_reducible rfl
                        rotate_left
                        · simp only [Act.put, List.setIfInBounds_toArray, List.set_cons_zero, List.set_cons_succ, i64_w, i32_w]
                          rfl
                        refine take_ (i := 7) (N := some 34) (v := ?_) (a' := ?_) #[true, true, true, true, false, false, true, true, false, false, false, false, true, false, false, false] rfl rfl (take_ofW HT_.out HW_.out (by kernel_rfl)) (fun _ _ _ h => h) (Or.inl ⟨by rfl, ?_⟩) hHeld ?_ ?_
                        rotate_left
                        · rintro w' ⟨s0, s1⟩
                          go_simp
                          with_reducible rfl
                        rotate_left
                        · simp only [Act.put, List.setIfInBounds_toArray, List.set_cons_zero, List.set_cons_succ, i64_w, i32_w]
                          rfl
                        refine pure_ (i := 8) (N := some 35) (v := ?_) (a' := ?_) #[true, true, true, true, false, false, true, true, true, false, false, false, true, false, false, false] rfl rfl (any_of HT_.out (by kernel_rfl)) (fun _ _ _ h => h) (Or.inl ⟨by rfl, ?_⟩) ?_ ?_
                        rotate_left
                        · intro w'
                          go_simp
                          with_reducible rfl
                        rotate_left
                        · simp only [Act.put, List.setIfInBounds_toArray, List.set_cons_zero, List.set_cons_succ, i64_w, i32_w]
                          rfl
                        refine pure_ (i := 9) (N := some 36) (v := ?_) (a' := ?_) #[true, true, true, true, false, false, true, true, true, true, false, false, true, false, false, false] rfl rfl (any_of HT_.out (by kernel_rfl)) (fun _ _ _ h => h) (Or.inl ⟨by rfl, ?_⟩) ?_ ?_
                        rotate_left
                        · intro w'
                          go_simp
                          with_reducible rfl
                        rotate_left
                        · simp only [Act.put, List.setIfInBounds_toArray, List.set_cons_zero, List.set_cons_succ, i64_w, i32_w]
                          rfl
                        refine take_ (i := 13) (N := some 40) (v := ?_) (a' := ?_) #[true, true, true, true, false, false, true, true, true, true, false, false, true, true, false, false] rfl rfl (take_ofW HT_.out HW_.out (by kernel_rfl)) (fun _ _ _ h => h) (Or.inl ⟨by rfl, ?_⟩) hHeld ?_ ?_
                        rotate_left
                        · rintro w' ⟨s0, s1⟩
                          go_simp
                          with_reducible rfl
                        rotate_left
                        · simp only [Act.put, List.setIfInBounds_toArray, List.set_cons_zero, List.set_cons_succ, i64_w, i32_w]
                          rfl
                        refine one_ (i := 4) (N := some 31) #[true, true, true, true, true, false, true, true, true, true, false, false, true, true, false, false] rfl rfl (one_of HT_.out (by kernel_rfl)) (by decide) (fun K hK => ?_)
                        refine goes_ Try.func31 (by kernel_rfl) rfl #[.int .u64 (IntKind.u64.wrap (((rd_T38 l0 x9_1).f0))), .int .i64 2] (by rfl) rfl rfl (by (try simp only [List.map_toArray, List.map_cons, List.map_nil]); first | done | rfl | (simp only [List.length_drop, List.length_take]; rfl)) ?_
                        with_reducible refine (portmanteauref01_Of.calls kj4 (IntKind.u64.wrap (((rd_T38 l0 x9_1).f0))) 2 t162 _ A12.out).mono ?_
                        rintro e w18 ⟨rfl, hb⟩
                        refine ⟨_, rfl, ?_⟩
                        have n0_ := Aside0.mk (blk_below (g := gb161) (o := .cells #[.int .u16 ((rd_T38 l0 x9_1).f0), .string ((rd_T38 l0 x9_1).f1)] 38 (0, 0)) (by (with_reducible repeat (first | refine blk_drewN ?_ _ | refine blk_drew ?_ | refine blk_alloc ?_ _)); exact BK161.out) hb)
                        have n1_ := Aside0.mk (below_step (by repeat (first | (with_reducible first | exact HB.out | apply below_alloc | apply pw_below_drewN | apply below_drew1 | refine below_set ?_ GE161.out) | exact HB.out)) hb)
                        clear BK161
                        clear HB
                        have BK161 := n0_
                        have HB := n1_
                        clear n0_ n1_
                        (try clear hb)
                        (try clear hb2)
                        (try clear hk)
                        (try clear hi)
                        refine hK.out _ _ ⟨(blk_cell BK161.out 0).trans rfl, (blk_cell BK161.out 1).trans rfl⟩ (fun hHeld => ?_)
                        clear hK K
                        refine norm_ (a' := ?_) ?_ ?_
                        rotate_left
                        · show Act.put _ (some 31) _ = _
                          simp only [Act.put, List.setIfInBounds_toArray, List.set_cons_zero, List.set_cons_succ, i64_w, i32_w]
                          rfl
                        refine pure_ (i := 5) (N := some 32) (v := ?_) (a' := ?_) #[true, true, true, true, true, true, true, true, true, true, false, false, true, true, false, false] rfl rfl (any_of HT_.out (by kernel_rfl)) (fun _ _ _ h => h) (Or.inl ⟨by rfl, ?_⟩) ?_ ?_
                        rotate_left
                        · intro w'
                          go_simp
                          with_reducible rfl
                        rotate_left
                        · simp only [Act.put, List.setIfInBounds_toArray, List.set_cons_zero, List.set_cons_succ, i64_w, i32_w]
                          rfl
                        refine one_ (i := 10) (N := some 37) #[true, true, true, true, true, true, true, true, true, true, true, false, true, true, false, false] rfl rfl (one_of HT_.out (by kernel_rfl)) (by decide) (fun K hK => ?_)
                        refine goes_ Try.func31 (by kernel_rfl) rfl #[.int .u64 (IntKind.u64.wrap ((((rd_T38 l0 x9_1).f1).size : Int))), .int .i64 2] (by rfl) rfl rfl (by (try simp only [List.map_toArray, List.map_cons, List.map_nil]); first | done | rfl | (simp only [List.length_drop, List.length_take]; rfl)) ?_
                        with_reducible refine (portmanteauref01_Of.calls kj4 (IntKind.u64.wrap ((((rd_T38 l0 x9_1).f1).size : Int))) 2 t163 _ A14.out).mono ?_
                        rintro e w19 ⟨rfl, hb⟩
                        refine ⟨_, rfl, ?_⟩
                        have n0_ := Aside0.mk (blk_below (g := gb161) (o := .cells #[.int .u16 ((rd_T38 l0 x9_1).f0), .string ((rd_T38 l0 x9_1).f1)] 38 (0, 0)) (by (with_reducible repeat (first | refine blk_drewN ?_ _ | refine blk_drew ?_ | refine blk_alloc ?_ _)); exact BK161.out) hb)
                        have n1_ := Aside0.mk (below_step (by repeat (first | (with_reducible first | exact HB.out | apply below_alloc | apply pw_below_drewN | apply below_drew1 | refine below_set ?_ GE161.out) | exact HB.out)) hb)
                        clear BK161
                        clear HB
                        have BK161 := n0_
                        have HB := n1_
                        clear n0_ n1_
                        (try clear hb)
                        (try clear hb2)
                        (try clear hk)
                        (try clear hi)
                        refine hK.out _ _ ⟨(blk_cell BK161.out 0).trans rfl, (blk_cell BK161.out 1).trans rfl⟩ (fun hHeld => ?_)
                        clear hK K
                        refine norm_ (a' := ?_) ?_ ?_
                        rotate_left
                        · show Act.put _ (some 37) _ = _
                          simp only [Act.put, List.setIfInBounds_toArray, List.set_cons_zero, List.set_cons_succ, i64_w, i32_w]
                          rfl
                        refine pure_ (i := 11) (N := some 38) (v := ?_) (a' := ?_) #[true, true, true, true, true, true, true, true, true, true, true, true, true, true, false, false] rfl rfl (any_of HT_.out (by kernel_rfl)) (fun _ _ _ h => h) (Or.inl ⟨by rfl, ?_⟩) ?_ ?_
                        rotate_left
                        · intro w'
                          go_simp
                          with_reducible rfl
                        rotate_left
                        · simp only [Act.put, List.setIfInBounds_toArray, List.set_cons_zero, List.set_cons_succ, i64_w, i32_w]
                          rfl
                        refine pure_ (i := 14) (N := some 41) (v := ?_) (a' := ?_) #[true, true, true, true, true, true, true, true, true, true, true, true, true, true, true, false] rfl rfl (any_of HT_.out (by kernel_rfl)) (fun _ _ _ h => h) (Or.inl ⟨by rfl, ?_⟩) ?_ ?_
                        rotate_left
                        · intro w'
                          go_simp
                          with_reducible rfl
                        rotate_left
                        · simp only [Act.put, List.setIfInBounds_toArray, List.set_cons_zero, List.set_cons_succ, i64_w, i32_w]
                          rfl
                        refine pure_ (i := 15) (N := some 4) (v := ?_) (a' := ?_) #[true, true, true, true, true, true, true, true, true, true, true, true, true, true, true, true] rfl rfl (any_of HT_.out (by kernel_rfl)) (fun _ _ _ h => h) (Or.inl ⟨by rfl, ?_⟩) ?_ ?_
                        rotate_left
                        · intro w'
                          go_simp
                          with_reducible rfl
                        rotate_left
                        · simp only [Act.put, List.setIfInBounds_toArray, List.set_cons_zero, List.set_cons_succ, i64_w, i32_w]
                          rfl
                        refine done_ (done_of HT_.out (by kernel_rfl)) ?_
                        try go_wp2
                        go_roundg kj4
                        case measure => have := HK1.out; have := HJ4.out; omega
                        case rel => exact ⟨(((x4_1 ++ t162) ++ t163) ++ ((rd_T38 l0 x9_1).f1)), (wrap64 (x9_1 + 1)), (by first | rfl | (simp; done) | (simp [*]; done)), (by first | rfl | (simp; done) | (simp [*]; done)), H', ⟨by have := HK1.out; have := HJ4.out; omega⟩, ⟨by repeat (first | (with_reducible first | exact HB.out | apply below_alloc | apply pw_below_drewN | apply below_drew1 | refine below_set ?_ GE161.out) | exact HB.out)⟩⟩
                      · rw [if_neg c16] at H
                        exact absurd H (by simp)
                    · rw [if_neg c15] at H
                      exact absurd H (by simp)
                  · rw [if_neg c13] at H
                    exact absurd H (by simp)
          · rw [if_neg c4] at H
            exact absurd H (by simp)
        · rw [if_neg c3] at H
          exact absurd H (by simp)
      · rw [if_neg c2] at H
        have c2b0 : decide (x9_1 < (l0.length : Int)) = false := decide_eq_false c2
        clear c2
        simp only [Option.some.injEq, Prod.mk.injEq] at H
        obtain ⟨rfl, rfl⟩ := H
        go_wp2
        go_ret2
        exact ⟨by first | rfl | (simp [errW_none, errW_some] <;> rfl) | (simp [*, errW_none, errW_some] <;> rfl), by repeat (first | (with_reducible first | exact HB.out | apply below_alloc | apply pw_below_drewN | apply below_drew1) | exact HB.out)⟩

end Go.Proofs.Ytdlcihbfdbdbbaa.P
