/- Written by a program of this session (wip/print2: a patched copy of a printer), not by print.sh: Lean functions with the answers of the Go functions, and the proofs of that; no condition beside those that stand in each theorem. -/
import Derived.Test.YtegdnkhpkealoaaPx0
import Derived.Test.YtegdnkhpkealoaaPx2
import Derived.Test.YtegdnkhpkealoaaPx3
import Derived.Test.YtegdnkhpkealoaaPx4
import Derived.Test.YtegdnkhpkealoaaPx5
import Derived.Test.YtegdnkhpkealoaaPx6
import Derived.Test.YtegdnkhpkealoaaPx7
import Derived.Test.YtegdnkhpkealoaaPx8
namespace Go.Proofs.Ytegdnkhpkealoaa.P
open Go.RowKit Go.Proofs.YtegdnkhpkealoaaW.PrintWords Go.Proofs.YtegdnkhpkealoaaW.PrintLast Go.Proofs.YtegdnkhpkealoaaW.PrintMore
attribute [local go_sem] max2_int min2_int max_two min_two max_three min_three max_four min_four   -- for this text's walks alone
set_option linter.unusedVariables false
set_option linter.unusedSimpArgs false

/-! ### portmanteaulaw01_CursorWrites: function 3 -/
def portmanteaulaw01_CursorWrites.j0 : Nat → Int → Int → Bool → Option (Bool)
  | 0, _, _, _ => none
  | k + 1, x0, x1, x41 => if x41 = true then (some false) else ((cursor_Two.f k (IntKind.u16.wrap (x0))).bind fun t129 => ((portmanteauref01_Of.f k (Int.tmod x0 65536) 2).bind fun t130 => (if t129.toList = t130.toList then ((cursor_Four.f k ((x0) % 4294967296)).bind fun t131 => ((portmanteauref01_Of.f k (Int.tmod x0 4294967296) 4).bind fun t132 => (if t131.toList = t132.toList then ((cursor_Eight.f k x0).bind fun t133 => ((portmanteauref01_Of.f k x0 8).bind fun t134 => (if t133.toList = t134.toList then ((cursor_Of.f k x0 x1).bind fun t135 => ((portmanteauref01_Of.f k x0 x1).bind fun t136 => (some (t135.toList == t136.toList)))) else (some false)))) else (some false)))) else (some false))))
def portmanteaulaw01_CursorWrites.f (k : Nat) (a0 : Int) (a1 : Int) (a2 : ByteArray) : Option (Bool) := (portmanteaulaw01_awake.f k).bind fun t124 => (if t124 = true then ((cursor_Number.f k a2).bind fun bt125 => (if (a2.size : Int) > 8 then (if bt125.1 = 0 then (if bt125.2 = 5 then (if (a2.size : Int) ≤ 8 then ((portmanteauref01_Number.f k a2).bind fun t127 => (if bt125.1 = t127 then (portmanteaulaw01_CursorWrites.j0 k a0 a1 (bt125.2 != 0)) else (portmanteaulaw01_CursorWrites.j0 k a0 a1 true))) else (portmanteaulaw01_CursorWrites.j0 k a0 a1 false)) else (portmanteaulaw01_CursorWrites.j0 k a0 a1 true)) else (portmanteaulaw01_CursorWrites.j0 k a0 a1 true)) else (if (a2.size : Int) ≤ 8 then ((portmanteauref01_Number.f k a2).bind fun t128 => (if bt125.1 = t128 then (portmanteaulaw01_CursorWrites.j0 k a0 a1 (bt125.2 != 0)) else (portmanteaulaw01_CursorWrites.j0 k a0 a1 true))) else (portmanteaulaw01_CursorWrites.j0 k a0 a1 false)))) else (some false))
theorem portmanteaulaw01_CursorWrites.mono_l : ∀ k, (∀ y0 y1 y2, LeO (portmanteaulaw01_CursorWrites.j0 k y0 y1 y2) (portmanteaulaw01_CursorWrites.j0 (k + 1) y0 y1 y2))
  | 0 => fun _ _ _ r h => by simp [portmanteaulaw01_CursorWrites.j0] at h
  | k + 1 => by
    have ih0 := portmanteaulaw01_CursorWrites.mono_l k
    · intro y0 y1 y2
      unfold portmanteaulaw01_CursorWrites.j0
      repeat' first
      | (with_reducible exact ih0 _ _ _)
      | (with_reducible exact cursor_Eight.mono _ _)
      | (with_reducible exact cursor_Four.mono _ _)
      | (with_reducible exact cursor_Number.mono _ _)
      | (with_reducible exact cursor_Of.mono _ _ _)
      | (with_reducible exact cursor_Two.mono _ _)
      | (with_reducible exact portmanteaulaw01_awake.mono _)
      | (with_reducible exact portmanteauref01_Number.mono _ _)
      | (with_reducible exact portmanteauref01_Of.mono _ _ _)
      | (with_reducible exact LeO.refl _)
      | (with_reducible exact LeO.none _)
      | (with_reducible refine LeO.ite ?_ ?_)
      | (with_reducible refine LeO.bind ?_ (fun _ => ?_))
      | exact ih0 _ _ _
      | exact cursor_Eight.mono _ _
      | exact cursor_Four.mono _ _
      | exact cursor_Number.mono _ _
      | exact cursor_Of.mono _ _ _
      | exact cursor_Two.mono _ _
      | exact portmanteaulaw01_awake.mono _
      | exact portmanteauref01_Number.mono _ _
      | exact portmanteauref01_Of.mono _ _ _
      | exact LeO.none _
      | refine LeO.ite ?_ ?_
      | refine LeO.bind ?_ (fun _ => ?_)
theorem portmanteaulaw01_CursorWrites.mono : ∀ a0 a1 a2 k, LeO (portmanteaulaw01_CursorWrites.f k a0 a1 a2) (portmanteaulaw01_CursorWrites.f (k + 1) a0 a1 a2) := by
  intro a0 a1 a2 k
  have ih0 := portmanteaulaw01_CursorWrites.mono_l k
  unfold portmanteaulaw01_CursorWrites.f
  repeat' first
      | (with_reducible exact ih0 _ _ _)
      | (with_reducible exact cursor_Eight.mono _ _)
      | (with_reducible exact cursor_Four.mono _ _)
      | (with_reducible exact cursor_Number.mono _ _)
      | (with_reducible exact cursor_Of.mono _ _ _)
      | (with_reducible exact cursor_Two.mono _ _)
      | (with_reducible exact portmanteaulaw01_awake.mono _)
      | (with_reducible exact portmanteauref01_Number.mono _ _)
      | (with_reducible exact portmanteauref01_Of.mono _ _ _)
      | (with_reducible exact LeO.refl _)
      | (with_reducible exact LeO.none _)
      | (with_reducible refine LeO.ite ?_ ?_)
      | (with_reducible refine LeO.bind ?_ (fun _ => ?_))
      | exact ih0 _ _ _
      | exact cursor_Eight.mono _ _
      | exact cursor_Four.mono _ _
      | exact cursor_Number.mono _ _
      | exact cursor_Of.mono _ _ _
      | exact cursor_Two.mono _ _
      | exact portmanteaulaw01_awake.mono _
      | exact portmanteauref01_Number.mono _ _
      | exact portmanteauref01_Of.mono _ _ _
      | exact LeO.none _
      | refine LeO.ite ?_ ?_
      | refine LeO.bind ?_ (fun _ => ?_)
set_option maxHeartbeats 8000000 in
set_option maxRecDepth 100000 in
theorem portmanteaulaw01_CursorWrites.calls (k : Nat) (a0 : Int) (a1 : Int) (a2 : ByteArray) (r : Bool) (w : World) (h : portmanteaulaw01_CursorWrites.f k a0 a1 a2 = some r) :
    Calls Try.prog 3 #[.int .u64 a0, .int .i64 a1, .string a2] w fun e w' => e = .returned (.bool r) ∧ Below w.heap.size w w' := by
  have HB := Aside0.mk (Below.refl w.heap.size w)
  have H : ((portmanteaulaw01_awake.f k).bind fun t124 => (if t124 = true then ((cursor_Number.f k a2).bind fun bt125 => (if (a2.size : Int) > 8 then (if bt125.1 = 0 then (if bt125.2 = 5 then (if (a2.size : Int) ≤ 8 then ((portmanteauref01_Number.f k a2).bind fun t127 => (if bt125.1 = t127 then (portmanteaulaw01_CursorWrites.j0 k a0 a1 (bt125.2 != 0)) else (portmanteaulaw01_CursorWrites.j0 k a0 a1 true))) else (portmanteaulaw01_CursorWrites.j0 k a0 a1 false)) else (portmanteaulaw01_CursorWrites.j0 k a0 a1 true)) else (portmanteaulaw01_CursorWrites.j0 k a0 a1 true)) else (if (a2.size : Int) ≤ 8 then ((portmanteauref01_Number.f k a2).bind fun t128 => (if bt125.1 = t128 then (portmanteaulaw01_CursorWrites.j0 k a0 a1 (bt125.2 != 0)) else (portmanteaulaw01_CursorWrites.j0 k a0 a1 true))) else (portmanteaulaw01_CursorWrites.j0 k a0 a1 false)))) else (some false))) = some r := h
  clear h
  replace H := Option.bind_eq_some_iff.mp H
  obtain ⟨t124, A40, H⟩ := H
  replace H : (if t124 = true then ((cursor_Number.f k a2).bind fun bt125 => (if (a2.size : Int) > 8 then (if bt125.1 = 0 then (if bt125.2 = 5 then (if (a2.size : Int) ≤ 8 then ((portmanteauref01_Number.f k a2).bind fun t127 => (if bt125.1 = t127 then (portmanteaulaw01_CursorWrites.j0 k a0 a1 (bt125.2 != 0)) else (portmanteaulaw01_CursorWrites.j0 k a0 a1 true))) else (portmanteaulaw01_CursorWrites.j0 k a0 a1 false)) else (portmanteaulaw01_CursorWrites.j0 k a0 a1 true)) else (portmanteaulaw01_CursorWrites.j0 k a0 a1 true)) else (if (a2.size : Int) ≤ 8 then ((portmanteauref01_Number.f k a2).bind fun t128 => (if bt125.1 = t128 then (portmanteaulaw01_CursorWrites.j0 k a0 a1 (bt125.2 != 0)) else (portmanteaulaw01_CursorWrites.j0 k a0 a1 true))) else (portmanteaulaw01_CursorWrites.j0 k a0 a1 false)))) else (some false)) = some r := H
  have A4 := Aside0.mk A40
  clear A40
  by_cases c5 : t124 = true
  · subst c5
    have H1 : ((cursor_Number.f k a2).bind fun bt125 => (if (a2.size : Int) > 8 then (if bt125.1 = 0 then (if bt125.2 = 5 then (if (a2.size : Int) ≤ 8 then ((portmanteauref01_Number.f k a2).bind fun t127 => (if bt125.1 = t127 then (portmanteaulaw01_CursorWrites.j0 k a0 a1 (bt125.2 != 0)) else (portmanteaulaw01_CursorWrites.j0 k a0 a1 true))) else (portmanteaulaw01_CursorWrites.j0 k a0 a1 false)) else (portmanteaulaw01_CursorWrites.j0 k a0 a1 true)) else (portmanteaulaw01_CursorWrites.j0 k a0 a1 true)) else (if (a2.size : Int) ≤ 8 then ((portmanteauref01_Number.f k a2).bind fun t128 => (if bt125.1 = t128 then (portmanteaulaw01_CursorWrites.j0 k a0 a1 (bt125.2 != 0)) else (portmanteaulaw01_CursorWrites.j0 k a0 a1 true))) else (portmanteaulaw01_CursorWrites.j0 k a0 a1 false)))) = some r := by rw [if_pos rfl] at H; exact H
    clear H
    have H := H1
    clear H1
    replace H := Option.bind_eq_some_iff.mp H
    obtain ⟨⟨t125, t126⟩, A60, H⟩ := H
    replace H : (if (a2.size : Int) > 8 then (if t125 = 0 then (if t126 = 5 then (if (a2.size : Int) ≤ 8 then ((portmanteauref01_Number.f k a2).bind fun t127 => (if t125 = t127 then (portmanteaulaw01_CursorWrites.j0 k a0 a1 (t126 != 0)) else (portmanteaulaw01_CursorWrites.j0 k a0 a1 true))) else (portmanteaulaw01_CursorWrites.j0 k a0 a1 false)) else (portmanteaulaw01_CursorWrites.j0 k a0 a1 true)) else (portmanteaulaw01_CursorWrites.j0 k a0 a1 true)) else (if (a2.size : Int) ≤ 8 then ((portmanteauref01_Number.f k a2).bind fun t128 => (if t125 = t128 then (portmanteaulaw01_CursorWrites.j0 k a0 a1 (t126 != 0)) else (portmanteaulaw01_CursorWrites.j0 k a0 a1 true))) else (portmanteaulaw01_CursorWrites.j0 k a0 a1 false))) = some r := H
    have A6 := Aside0.mk A60
    clear A60
    have HC7 := Aside0.mk H
    clear H
    go_enter Try.func3, Try.ntmps3
    go_upto_region 4 with (first | ((with_reducible refine gate_callee (f := 7) rfl ?_); refine goesL_ (some 9) rfl rfl Try.func7 (by kernel_rfl) rfl #[] rfl (by (try simp only [List.map_toArray, List.map_cons, List.map_nil]); first | done | rfl | (simp only [List.length_drop, List.length_take]; rfl)) ?_; (with_reducible refine (portmanteaulaw01_awake.calls k  true _ A4.out).mono ?_); rintro e w8 ⟨rfl, hb⟩; refine ⟨_, rfl, ?_⟩; have n0_ := Aside0.mk (below_step (by repeat (first | (with_reducible first | exact HB.out | apply below_alloc | apply pw_below_drewN | apply below_drew1) | exact HB.out)) hb); clear HB; have HB := n0_; clear n0_; (try clear hb); (try clear hb2); (try clear hk); (try clear hi)) | ((with_reducible refine gate_callee (f := 8) rfl ?_); refine goesL_ (some 13) rfl rfl Try.func8 (by kernel_rfl) rfl #[.string a2] rfl (by (try simp only [List.map_toArray, List.map_cons, List.map_nil]); first | done | rfl | (simp only [List.length_drop, List.length_take]; rfl)) ?_; (with_reducible refine (cursor_Number.calls k a2 t125 t126 _ A6.out).mono ?_); rintro e w' ⟨rfl, ⟨nd, rfl⟩⟩; refine ⟨_, rfl, ?_⟩))
    (try simp only [Act.put, List.setIfInBounds_toArray, List.set_cons_zero, List.set_cons_succ])
    go_cut [41] (fun v41 wc => ∃ (kq : Nat) (x41_6 : Bool), v41 = .bool x41_6 ∧ Aside0 (portmanteaulaw01_CursorWrites.j0 kq a0 a1 x41_6 = some r) ∧ Aside0 (kq ≤ k) ∧ Aside0 (Below w.heap.size w wc))
    case first =>
      have H := HC7.out
      clear HC7
      by_cases c9 : (a2.size : Int) > 8
      · rw [if_pos c9] at H
        have c9b0 : decide (8 < (a2.size : Int)) = true := decide_eq_true c9
        have c9b1 : decide (8 < a2.size) = true := decide_eq_true (by omega)
        clear c9
        (first | rw [c9b0] | (simp only [i64_w, i32_w]; rw [c9b0]) | skip)
        by_cases c10 : t125 = 0
        · rw [if_pos c10] at H
          have c10b0 : (t125 == 0) = true := beq_iff_eq.mpr c10
          have c10b1 : (t125 != 0) = false := bne_eq_false_iff_eq.mpr c10
          clear c10
          by_cases c11 : t126 = 5
          · rw [if_pos c11] at H
            have c11b0 : (t126 == 5) = true := beq_iff_eq.mpr c11
            have c11b1 : (t126 != 5) = false := bne_eq_false_iff_eq.mpr c11
            clear c11
            by_cases c12 : (a2.size : Int) ≤ 8
            · rw [if_pos c12] at H
              have c12b0 : decide ((a2.size : Int) ≤ 8) = true := decide_eq_true c12
              have c12b1 : decide (a2.size ≤ 8) = true := decide_eq_true (by omega)
              clear c12
              replace H := Option.bind_eq_some_iff.mp H
              obtain ⟨t127, A130, H⟩ := H
              replace H : (if t125 = t127 then (portmanteaulaw01_CursorWrites.j0 k a0 a1 (t126 != 0)) else (portmanteaulaw01_CursorWrites.j0 k a0 a1 true)) = some r := H
              have A13 := Aside0.mk A130
              clear A130
              by_cases c14 : t125 = t127
              · rw [if_pos c14] at H
                have c14b0 : (t125 == t127) = true := beq_iff_eq.mpr c14
                have c14b1 : (t125 != t127) = false := bne_eq_false_iff_eq.mpr c14
                clear c14
                have H' := Aside0.mk H
                clear H
                go_wp2_with (first | (go_at_call 9; (with_reducible refine (portmanteauref01_Number.calls k a2 t127 _ A13.out).mono ?_); rintro e w' ⟨rfl, ⟨nd, rfl⟩⟩))
                go_meet
                case rel => exact ⟨_, ((t126 != 0)), (by first | rfl | (simp; done) | (simp [*]; done)), H', ⟨by first | omega | exact Nat.le_refl _⟩, ⟨by repeat (first | (with_reducible first | exact HB.out | apply below_alloc | apply pw_below_drewN | apply below_drew1) | exact HB.out)⟩⟩
              · rw [if_neg c14] at H
                have c14b0 : (t125 == t127) = false := beq_eq_false_iff_ne.mpr c14
                have c14b1 : (t125 != t127) = true := bne_iff_ne.mpr c14
                have H' := Aside0.mk H
                clear H
                go_wp2_with (first | (go_at_call 9; (with_reducible refine (portmanteauref01_Number.calls k a2 t127 _ A13.out).mono ?_); rintro e w' ⟨rfl, ⟨nd, rfl⟩⟩))
                go_meet
                case rel => exact ⟨_, (true), (by first | rfl | (simp; done) | (simp [*]; done)), H', ⟨by first | omega | exact Nat.le_refl _⟩, ⟨by repeat (first | (with_reducible first | exact HB.out | apply below_alloc | apply pw_below_drewN | apply below_drew1) | exact HB.out)⟩⟩
            · rw [if_neg c12] at H
              have c12b0 : decide ((a2.size : Int) ≤ 8) = false := decide_eq_false c12
              have c12b1 : decide (a2.size ≤ 8) = false := decide_eq_false (by omega)
              clear c12
              have H' := Aside0.mk H
              clear H
              go_wp2
              go_meet
              case rel => exact ⟨_, (false), (by first | rfl | (simp; done) | (simp [*]; done)), H', ⟨by first | omega | exact Nat.le_refl _⟩, ⟨by repeat (first | (with_reducible first | exact HB.out | apply below_alloc | apply pw_below_drewN | apply below_drew1) | exact HB.out)⟩⟩
          · rw [if_neg c11] at H
            have c11b0 : (t126 == 5) = false := beq_eq_false_iff_ne.mpr c11
            have c11b1 : (t126 != 5) = true := bne_iff_ne.mpr c11
            have H' := Aside0.mk H
            clear H
            go_wp2
            go_meet
            case rel => exact ⟨_, (true), (by first | rfl | (simp; done) | (simp [*]; done)), H', ⟨by first | omega | exact Nat.le_refl _⟩, ⟨by repeat (first | (with_reducible first | exact HB.out | apply below_alloc | apply pw_below_drewN | apply below_drew1) | exact HB.out)⟩⟩
        · rw [if_neg c10] at H
          have c10b0 : (t125 == 0) = false := beq_eq_false_iff_ne.mpr c10
          have c10b1 : (t125 != 0) = true := bne_iff_ne.mpr c10
          have H' := Aside0.mk H
          clear H
          go_wp2
          go_meet
          case rel => exact ⟨_, (true), (by first | rfl | (simp; done) | (simp [*]; done)), H', ⟨by first | omega | exact Nat.le_refl _⟩, ⟨by repeat (first | (with_reducible first | exact HB.out | apply below_alloc | apply pw_below_drewN | apply below_drew1) | exact HB.out)⟩⟩
      · rw [if_neg c9] at H
        have c9b0 : decide (8 < (a2.size : Int)) = false := decide_eq_false c9
        have c9b1 : decide (8 < a2.size) = false := decide_eq_false (by omega)
        clear c9
        (first | rw [c9b0] | (simp only [i64_w, i32_w]; rw [c9b0]) | skip)
        by_cases c15 : (a2.size : Int) ≤ 8
        · rw [if_pos c15] at H
          have c15b0 : decide ((a2.size : Int) ≤ 8) = true := decide_eq_true c15
          have c15b1 : decide (a2.size ≤ 8) = true := decide_eq_true (by omega)
          clear c15
          replace H := Option.bind_eq_some_iff.mp H
          obtain ⟨t128, A160, H⟩ := H
          replace H : (if t125 = t128 then (portmanteaulaw01_CursorWrites.j0 k a0 a1 (t126 != 0)) else (portmanteaulaw01_CursorWrites.j0 k a0 a1 true)) = some r := H
          have A16 := Aside0.mk A160
          clear A160
          by_cases c17 : t125 = t128
          · rw [if_pos c17] at H
            have c17b0 : (t125 == t128) = true := beq_iff_eq.mpr c17
            have c17b1 : (t125 != t128) = false := bne_eq_false_iff_eq.mpr c17
            clear c17
            have H' := Aside0.mk H
            clear H
            go_wp2_with (first | (go_at_call 9; (with_reducible refine (portmanteauref01_Number.calls k a2 t128 _ A16.out).mono ?_); rintro e w' ⟨rfl, ⟨nd, rfl⟩⟩))
            go_meet
            case rel => exact ⟨_, ((t126 != 0)), (by first | rfl | (simp; done) | (simp [*]; done)), H', ⟨by first | omega | exact Nat.le_refl _⟩, ⟨by repeat (first | (with_reducible first | exact HB.out | apply below_alloc | apply pw_below_drewN | apply below_drew1) | exact HB.out)⟩⟩
          · rw [if_neg c17] at H
            have c17b0 : (t125 == t128) = false := beq_eq_false_iff_ne.mpr c17
            have c17b1 : (t125 != t128) = true := bne_iff_ne.mpr c17
            have H' := Aside0.mk H
            clear H
            go_wp2_with (first | (go_at_call 9; (with_reducible refine (portmanteauref01_Number.calls k a2 t128 _ A16.out).mono ?_); rintro e w' ⟨rfl, ⟨nd, rfl⟩⟩))
            go_meet
            case rel => exact ⟨_, (true), (by first | rfl | (simp; done) | (simp [*]; done)), H', ⟨by first | omega | exact Nat.le_refl _⟩, ⟨by repeat (first | (with_reducible first | exact HB.out | apply below_alloc | apply pw_below_drewN | apply below_drew1) | exact HB.out)⟩⟩
        · rw [if_neg c15] at H
          have c15b0 : decide ((a2.size : Int) ≤ 8) = false := decide_eq_false c15
          have c15b1 : decide (a2.size ≤ 8) = false := decide_eq_false (by omega)
          clear c15
          have H' := Aside0.mk H
          clear H
          go_wp2
          go_meet
          case rel => exact ⟨_, (false), (by first | rfl | (simp; done) | (simp [*]; done)), H', ⟨by first | omega | exact Nat.le_refl _⟩, ⟨by repeat (first | (with_reducible first | exact HB.out | apply below_alloc | apply pw_below_drewN | apply below_drew1) | exact HB.out)⟩⟩
    case rest =>
      clear HC7
      try clear c1
      try clear p2
      try clear c3
      try clear c5
      try clear c7
      try clear c8
      try clear c9
      try clear c9b0
      try clear c9b1
      try clear c10
      try clear c10b0
      try clear c10b1
      try clear c11
      try clear c11b0
      try clear c11b1
      try clear c12
      try clear c12b0
      try clear c12b1
      try clear c14
      try clear c14b0
      try clear c14b1
      try clear c15
      try clear c15b0
      try clear c15b1
      try clear c17
      try clear c17b0
      try clear c17b1
      obtain ⟨kq, x41_6, rfl, HA, HJ6, HB⟩ := hcut
      cases kq with
      | zero => exact absurd HA.out (by simp [portmanteaulaw01_CursorWrites.j0])
      | succ kj6 =>
        have H := HA.out
        clear HA
        simp only [portmanteaulaw01_CursorWrites.j0] at H
        by_cases c18 : x41_6 = true
        · subst c18
          have H1 : (some false) = some r := by rw [if_pos rfl] at H; exact H
          clear H
          have H := H1
          clear H1
          obtain rfl := Option.some.inj H
          go_wp2
          go_ret
          exact ⟨by first | rfl | (simp [errW_none, errW_some] <;> rfl) | (simp [*, errW_none, errW_some] <;> rfl), by repeat (first | (with_reducible first | exact HB.out | apply below_alloc | apply pw_below_drewN | apply below_drew1) | exact HB.out)⟩
        · replace c18 := Bool.eq_false_iff.mpr c18
          subst c18
          have H1 : ((cursor_Two.f kj6 (IntKind.u16.wrap (a0))).bind fun t129 => ((portmanteauref01_Of.f kj6 (Int.tmod a0 65536) 2).bind fun t130 => (if t129.toList = t130.toList then ((cursor_Four.f kj6 ((a0) % 4294967296)).bind fun t131 => ((portmanteauref01_Of.f kj6 (Int.tmod a0 4294967296) 4).bind fun t132 => (if t131.toList = t132.toList then ((cursor_Eight.f kj6 a0).bind fun t133 => ((portmanteauref01_Of.f kj6 a0 8).bind fun t134 => (if t133.toList = t134.toList then ((cursor_Of.f kj6 a0 a1).bind fun t135 => ((portmanteauref01_Of.f kj6 a0 a1).bind fun t136 => (some (t135.toList == t136.toList)))) else (some false)))) else (some false)))) else (some false)))) = some r := by rw [if_neg (show ¬ (false = true) by decide)] at H; exact H
          clear H
          have H := H1
          clear H1
          replace H := Option.bind_eq_some_iff.mp H
          obtain ⟨t129, A190, H⟩ := H
          replace H : ((portmanteauref01_Of.f kj6 (Int.tmod a0 65536) 2).bind fun t130 => (if t129.toList = t130.toList then ((cursor_Four.f kj6 ((a0) % 4294967296)).bind fun t131 => ((portmanteauref01_Of.f kj6 (Int.tmod a0 4294967296) 4).bind fun t132 => (if t131.toList = t132.toList then ((cursor_Eight.f kj6 a0).bind fun t133 => ((portmanteauref01_Of.f kj6 a0 8).bind fun t134 => (if t133.toList = t134.toList then ((cursor_Of.f kj6 a0 a1).bind fun t135 => ((portmanteauref01_Of.f kj6 a0 a1).bind fun t136 => (some (t135.toList == t136.toList)))) else (some false)))) else (some false)))) else (some false))) = some r := H
          have A19 := Aside0.mk A190
          clear A190
          replace H := Option.bind_eq_some_iff.mp H
          obtain ⟨t130, A200, H⟩ := H
          replace H : (if t129.toList = t130.toList then ((cursor_Four.f kj6 ((a0) % 4294967296)).bind fun t131 => ((portmanteauref01_Of.f kj6 (Int.tmod a0 4294967296) 4).bind fun t132 => (if t131.toList = t132.toList then ((cursor_Eight.f kj6 a0).bind fun t133 => ((portmanteauref01_Of.f kj6 a0 8).bind fun t134 => (if t133.toList = t134.toList then ((cursor_Of.f kj6 a0 a1).bind fun t135 => ((portmanteauref01_Of.f kj6 a0 a1).bind fun t136 => (some (t135.toList == t136.toList)))) else (some false)))) else (some false)))) else (some false)) = some r := H
          have A20 := Aside0.mk A200
          clear A200
          by_cases c21 : t129.toList = t130.toList
          · rw [if_pos c21] at H
            have c21b0 : (t129.toList == t130.toList) = true := beq_iff_eq.mpr c21
            have c21b1 : (t129.toList != t130.toList) = false := bne_eq_false_iff_eq.mpr c21
            clear c21
            replace H := Option.bind_eq_some_iff.mp H
            obtain ⟨t131, A220, H⟩ := H
            replace H : ((portmanteauref01_Of.f kj6 (Int.tmod a0 4294967296) 4).bind fun t132 => (if t131.toList = t132.toList then ((cursor_Eight.f kj6 a0).bind fun t133 => ((portmanteauref01_Of.f kj6 a0 8).bind fun t134 => (if t133.toList = t134.toList then ((cursor_Of.f kj6 a0 a1).bind fun t135 => ((portmanteauref01_Of.f kj6 a0 a1).bind fun t136 => (some (t135.toList == t136.toList)))) else (some false)))) else (some false))) = some r := H
            have A22 := Aside0.mk A220
            clear A220
            replace H := Option.bind_eq_some_iff.mp H
            obtain ⟨t132, A230, H⟩ := H
            replace H : (if t131.toList = t132.toList then ((cursor_Eight.f kj6 a0).bind fun t133 => ((portmanteauref01_Of.f kj6 a0 8).bind fun t134 => (if t133.toList = t134.toList then ((cursor_Of.f kj6 a0 a1).bind fun t135 => ((portmanteauref01_Of.f kj6 a0 a1).bind fun t136 => (some (t135.toList == t136.toList)))) else (some false)))) else (some false)) = some r := H
            have A23 := Aside0.mk A230
            clear A230
            by_cases c24 : t131.toList = t132.toList
            · rw [if_pos c24] at H
              have c24b0 : (t131.toList == t132.toList) = true := beq_iff_eq.mpr c24
              have c24b1 : (t131.toList != t132.toList) = false := bne_eq_false_iff_eq.mpr c24
              clear c24
              replace H := Option.bind_eq_some_iff.mp H
              obtain ⟨t133, A250, H⟩ := H
              replace H : ((portmanteauref01_Of.f kj6 a0 8).bind fun t134 => (if t133.toList = t134.toList then ((cursor_Of.f kj6 a0 a1).bind fun t135 => ((portmanteauref01_Of.f kj6 a0 a1).bind fun t136 => (some (t135.toList == t136.toList)))) else (some false))) = some r := H
              have A25 := Aside0.mk A250
              clear A250
              replace H := Option.bind_eq_some_iff.mp H
              obtain ⟨t134, A260, H⟩ := H
              replace H : (if t133.toList = t134.toList then ((cursor_Of.f kj6 a0 a1).bind fun t135 => ((portmanteauref01_Of.f kj6 a0 a1).bind fun t136 => (some (t135.toList == t136.toList)))) else (some false)) = some r := H
              have A26 := Aside0.mk A260
              clear A260
              by_cases c27 : t133.toList = t134.toList
              · rw [if_pos c27] at H
                have c27b0 : (t133.toList == t134.toList) = true := beq_iff_eq.mpr c27
                have c27b1 : (t133.toList != t134.toList) = false := bne_eq_false_iff_eq.mpr c27
                clear c27
                replace H := Option.bind_eq_some_iff.mp H
                obtain ⟨t135, A280, H⟩ := H
                replace H : ((portmanteauref01_Of.f kj6 a0 a1).bind fun t136 => (some (t135.toList == t136.toList))) = some r := H
                have A28 := Aside0.mk A280
                clear A280
                replace H := Option.bind_eq_some_iff.mp H
                obtain ⟨t136, A290, H⟩ := H
                replace H : (some (t135.toList == t136.toList)) = some r := H
                have A29 := Aside0.mk A290
                clear A290
                obtain rfl := Option.some.inj H
                go_wp2_with (first | ((with_reducible refine gate_callee (f := 10) rfl ?_); refine goesL_ (some 44) rfl rfl Try.func10 (by kernel_rfl) rfl #[.int .u16 (IntKind.u16.wrap (a0))] rfl (by (try simp only [List.map_toArray, List.map_cons, List.map_nil]); first | done | rfl | (simp only [List.length_drop, List.length_take]; rfl)) ?_; (with_reducible refine (cursor_Two.calls kj6 (IntKind.u16.wrap (a0)) t129 _ A19.out).mono ?_); rintro e w30 ⟨rfl, hb⟩; refine ⟨_, rfl, ?_⟩; have n0_ := Aside0.mk (below_step (by repeat (first | (with_reducible first | exact HB.out | apply below_alloc | apply pw_below_drewN | apply below_drew1) | exact HB.out)) hb); clear HB; have HB := n0_; clear n0_; (try clear hb); (try clear hb2); (try clear hk); (try clear hi)) | ((with_reducible refine gate_callee (f := 11) rfl ?_); refine goesL_ (some 47) rfl rfl Try.func11 (by kernel_rfl) rfl #[.int .u64 (Int.tmod a0 65536), .int .i64 2] rfl (by (try simp only [List.map_toArray, List.map_cons, List.map_nil]); first | done | rfl | (simp only [List.length_drop, List.length_take]; rfl)) ?_; (with_reducible refine (portmanteauref01_Of.calls kj6 (Int.tmod a0 65536) 2 t130 _ A20.out).mono ?_); rintro e w31 ⟨rfl, hb⟩; refine ⟨_, rfl, ?_⟩; have n0_ := Aside0.mk (below_step (by repeat (first | (with_reducible first | exact HB.out | apply below_alloc | apply pw_below_drewN | apply below_drew1) | exact HB.out)) hb); clear HB; have HB := n0_; clear n0_; (try clear hb); (try clear hb2); (try clear hk); (try clear hi)) | (go_at_call 12; (with_reducible refine (cursor_Four.calls kj6 ((a0) % 4294967296) t131 _ A22.out).mono ?_); rintro e w32 ⟨rfl, hb⟩; have n0_ := Aside0.mk (below_step (by repeat (first | (with_reducible first | exact HB.out | apply below_alloc | apply pw_below_drewN | apply below_drew1) | exact HB.out)) hb); clear HB; have HB := n0_; clear n0_; (try clear hb); (try clear hb2); (try clear hk); (try clear hi)) | (go_at_call 11; (with_reducible refine (portmanteauref01_Of.calls kj6 (Int.tmod a0 4294967296) 4 t132 _ A23.out).mono ?_); rintro e w33 ⟨rfl, hb⟩; have n0_ := Aside0.mk (below_step (by repeat (first | (with_reducible first | exact HB.out | apply below_alloc | apply pw_below_drewN | apply below_drew1) | exact HB.out)) hb); clear HB; have HB := n0_; clear n0_; (try clear hb); (try clear hb2); (try clear hk); (try clear hi)) | (go_at_call 13; (with_reducible refine (cursor_Eight.calls kj6 a0 t133 _ A25.out).mono ?_); rintro e w34 ⟨rfl, hb⟩; have n0_ := Aside0.mk (below_step (by repeat (first | (with_reducible first | exact HB.out | apply below_alloc | apply pw_below_drewN | apply below_drew1) | exact HB.out)) hb); clear HB; have HB := n0_; clear n0_; (try clear hb); (try clear hb2); (try clear hk); (try clear hi)) | (go_at_call 11; (with_reducible refine (portmanteauref01_Of.calls kj6 a0 8 t134 _ A26.out).mono ?_); rintro e w35 ⟨rfl, hb⟩; have n0_ := Aside0.mk (below_step (by repeat (first | (with_reducible first | exact HB.out | apply below_alloc | apply pw_below_drewN | apply below_drew1) | exact HB.out)) hb); clear HB; have HB := n0_; clear n0_; (try clear hb); (try clear hb2); (try clear hk); (try clear hi)) | (go_at_call 14; (with_reducible refine (cursor_Of.calls kj6 a0 a1 t135 _ A28.out).mono ?_); rintro e w36 ⟨rfl, hb⟩; have n0_ := Aside0.mk (below_step (by repeat (first | (with_reducible first | exact HB.out | apply below_alloc | apply pw_below_drewN | apply below_drew1) | exact HB.out)) hb); clear HB; have HB := n0_; clear n0_; (try clear hb); (try clear hb2); (try clear hk); (try clear hi)) | (go_at_call 11; (with_reducible refine (portmanteauref01_Of.calls kj6 a0 a1 t136 _ A29.out).mono ?_); rintro e w37 ⟨rfl, hb⟩; have n0_ := Aside0.mk (below_step (by repeat (first | (with_reducible first | exact HB.out | apply below_alloc | apply pw_below_drewN | apply below_drew1) | exact HB.out)) hb); clear HB; have HB := n0_; clear n0_; (try clear hb); (try clear hb2); (try clear hk); (try clear hi)))
                go_ret
                exact ⟨by first | rfl | (simp [errW_none, errW_some] <;> rfl) | (simp [*, errW_none, errW_some] <;> rfl), by repeat (first | (with_reducible first | exact HB.out | apply below_alloc | apply pw_below_drewN | apply below_drew1) | exact HB.out)⟩
              · rw [if_neg c27] at H
                have c27b0 : (t133.toList == t134.toList) = false := beq_eq_false_iff_ne.mpr c27
                have c27b1 : (t133.toList != t134.toList) = true := bne_iff_ne.mpr c27
                obtain rfl := Option.some.inj H
                go_wp2_with (first | ((with_reducible refine gate_callee (f := 10) rfl ?_); refine goesL_ (some 44) rfl rfl Try.func10 (by kernel_rfl) rfl #[.int .u16 (IntKind.u16.wrap (a0))] rfl (by (try simp only [List.map_toArray, List.map_cons, List.map_nil]); first | done | rfl | (simp only [List.length_drop, List.length_take]; rfl)) ?_; (with_reducible refine (cursor_Two.calls kj6 (IntKind.u16.wrap (a0)) t129 _ A19.out).mono ?_); rintro e w38 ⟨rfl, hb⟩; refine ⟨_, rfl, ?_⟩; have n0_ := Aside0.mk (below_step (by repeat (first | (with_reducible first | exact HB.out | apply below_alloc | apply pw_below_drewN | apply below_drew1) | exact HB.out)) hb); clear HB; have HB := n0_; clear n0_; (try clear hb); (try clear hb2); (try clear hk); (try clear hi)) | ((with_reducible refine gate_callee (f := 11) rfl ?_); refine goesL_ (some 47) rfl rfl Try.func11 (by kernel_rfl) rfl #[.int .u64 (Int.tmod a0 65536), .int .i64 2] rfl (by (try simp only [List.map_toArray, List.map_cons, List.map_nil]); first | done | rfl | (simp only [List.length_drop, List.length_take]; rfl)) ?_; (with_reducible refine (portmanteauref01_Of.calls kj6 (Int.tmod a0 65536) 2 t130 _ A20.out).mono ?_); rintro e w39 ⟨rfl, hb⟩; refine ⟨_, rfl, ?_⟩; have n0_ := Aside0.mk (below_step (by repeat (first | (with_reducible first | exact HB.out | apply below_alloc | apply pw_below_drewN | apply below_drew1) | exact HB.out)) hb); clear HB; have HB := n0_; clear n0_; (try clear hb); (try clear hb2); (try clear hk); (try clear hi)) | (go_at_call 12; (with_reducible refine (cursor_Four.calls kj6 ((a0) % 4294967296) t131 _ A22.out).mono ?_); rintro e w40 ⟨rfl, hb⟩; have n0_ := Aside0.mk (below_step (by repeat (first | (with_reducible first | exact HB.out | apply below_alloc | apply pw_below_drewN | apply below_drew1) | exact HB.out)) hb); clear HB; have HB := n0_; clear n0_; (try clear hb); (try clear hb2); (try clear hk); (try clear hi)) | (go_at_call 11; (with_reducible refine (portmanteauref01_Of.calls kj6 (Int.tmod a0 4294967296) 4 t132 _ A23.out).mono ?_); rintro e w41 ⟨rfl, hb⟩; have n0_ := Aside0.mk (below_step (by repeat (first | (with_reducible first | exact HB.out | apply below_alloc | apply pw_below_drewN | apply below_drew1) | exact HB.out)) hb); clear HB; have HB := n0_; clear n0_; (try clear hb); (try clear hb2); (try clear hk); (try clear hi)) | (go_at_call 13; (with_reducible refine (cursor_Eight.calls kj6 a0 t133 _ A25.out).mono ?_); rintro e w42 ⟨rfl, hb⟩; have n0_ := Aside0.mk (below_step (by repeat (first | (with_reducible first | exact HB.out | apply below_alloc | apply pw_below_drewN | apply below_drew1) | exact HB.out)) hb); clear HB; have HB := n0_; clear n0_; (try clear hb); (try clear hb2); (try clear hk); (try clear hi)) | (go_at_call 11; (with_reducible refine (portmanteauref01_Of.calls kj6 a0 8 t134 _ A26.out).mono ?_); rintro e w43 ⟨rfl, hb⟩; have n0_ := Aside0.mk (below_step (by repeat (first | (with_reducible first | exact HB.out | apply below_alloc | apply pw_below_drewN | apply below_drew1) | exact HB.out)) hb); clear HB; have HB := n0_; clear n0_; (try clear hb); (try clear hb2); (try clear hk); (try clear hi)))
                go_ret
                exact ⟨by first | rfl | (simp [errW_none, errW_some] <;> rfl) | (simp [*, errW_none, errW_some] <;> rfl), by repeat (first | (with_reducible first | exact HB.out | apply below_alloc | apply pw_below_drewN | apply below_drew1) | exact HB.out)⟩
            · rw [if_neg c24] at H
              have c24b0 : (t131.toList == t132.toList) = false := beq_eq_false_iff_ne.mpr c24
              have c24b1 : (t131.toList != t132.toList) = true := bne_iff_ne.mpr c24
              obtain rfl := Option.some.inj H
              go_wp2_with (first | ((with_reducible refine gate_callee (f := 10) rfl ?_); refine goesL_ (some 44) rfl rfl Try.func10 (by kernel_rfl) rfl #[.int .u16 (IntKind.u16.wrap (a0))] rfl (by (try simp only [List.map_toArray, List.map_cons, List.map_nil]); first | done | rfl | (simp only [List.length_drop, List.length_take]; rfl)) ?_; (with_reducible refine (cursor_Two.calls kj6 (IntKind.u16.wrap (a0)) t129 _ A19.out).mono ?_); rintro e w44 ⟨rfl, hb⟩; refine ⟨_, rfl, ?_⟩; have n0_ := Aside0.mk (below_step (by repeat (first | (with_reducible first | exact HB.out | apply below_alloc | apply pw_below_drewN | apply below_drew1) | exact HB.out)) hb); clear HB; have HB := n0_; clear n0_; (try clear hb); (try clear hb2); (try clear hk); (try clear hi)) | ((with_reducible refine gate_callee (f := 11) rfl ?_); refine goesL_ (some 47) rfl rfl Try.func11 (by kernel_rfl) rfl #[.int .u64 (Int.tmod a0 65536), .int .i64 2] rfl (by (try simp only [List.map_toArray, List.map_cons, List.map_nil]); first | done | rfl | (simp only [List.length_drop, List.length_take]; rfl)) ?_; (with_reducible refine (portmanteauref01_Of.calls kj6 (Int.tmod a0 65536) 2 t130 _ A20.out).mono ?_); rintro e w45 ⟨rfl, hb⟩; refine ⟨_, rfl, ?_⟩; have n0_ := Aside0.mk (below_step (by repeat (first | (with_reducible first | exact HB.out | apply below_alloc | apply pw_below_drewN | apply below_drew1) | exact HB.out)) hb); clear HB; have HB := n0_; clear n0_; (try clear hb); (try clear hb2); (try clear hk); (try clear hi)) | (go_at_call 12; (with_reducible refine (cursor_Four.calls kj6 ((a0) % 4294967296) t131 _ A22.out).mono ?_); rintro e w46 ⟨rfl, hb⟩; have n0_ := Aside0.mk (below_step (by repeat (first | (with_reducible first | exact HB.out | apply below_alloc | apply pw_below_drewN | apply below_drew1) | exact HB.out)) hb); clear HB; have HB := n0_; clear n0_; (try clear hb); (try clear hb2); (try clear hk); (try clear hi)) | (go_at_call 11; (with_reducible refine (portmanteauref01_Of.calls kj6 (Int.tmod a0 4294967296) 4 t132 _ A23.out).mono ?_); rintro e w47 ⟨rfl, hb⟩; have n0_ := Aside0.mk (below_step (by repeat (first | (with_reducible first | exact HB.out | apply below_alloc | apply pw_below_drewN | apply below_drew1) | exact HB.out)) hb); clear HB; have HB := n0_; clear n0_; (try clear hb); (try clear hb2); (try clear hk); (try clear hi)))
              go_ret
              exact ⟨by first | rfl | (simp [errW_none, errW_some] <;> rfl) | (simp [*, errW_none, errW_some] <;> rfl), by repeat (first | (with_reducible first | exact HB.out | apply below_alloc | apply pw_below_drewN | apply below_drew1) | exact HB.out)⟩
          · rw [if_neg c21] at H
            have c21b0 : (t129.toList == t130.toList) = false := beq_eq_false_iff_ne.mpr c21
            have c21b1 : (t129.toList != t130.toList) = true := bne_iff_ne.mpr c21
            obtain rfl := Option.some.inj H
            go_wp2_with (first | ((with_reducible refine gate_callee (f := 10) rfl ?_); refine goesL_ (some 44) rfl rfl Try.func10 (by kernel_rfl) rfl #[.int .u16 (IntKind.u16.wrap (a0))] rfl (by (try simp only [List.map_toArray, List.map_cons, List.map_nil]); first | done | rfl | (simp only [List.length_drop, List.length_take]; rfl)) ?_; (with_reducible refine (cursor_Two.calls kj6 (IntKind.u16.wrap (a0)) t129 _ A19.out).mono ?_); rintro e w48 ⟨rfl, hb⟩; refine ⟨_, rfl, ?_⟩; have n0_ := Aside0.mk (below_step (by repeat (first | (with_reducible first | exact HB.out | apply below_alloc | apply pw_below_drewN | apply below_drew1) | exact HB.out)) hb); clear HB; have HB := n0_; clear n0_; (try clear hb); (try clear hb2); (try clear hk); (try clear hi)) | ((with_reducible refine gate_callee (f := 11) rfl ?_); refine goesL_ (some 47) rfl rfl Try.func11 (by kernel_rfl) rfl #[.int .u64 (Int.tmod a0 65536), .int .i64 2] rfl (by (try simp only [List.map_toArray, List.map_cons, List.map_nil]); first | done | rfl | (simp only [List.length_drop, List.length_take]; rfl)) ?_; (with_reducible refine (portmanteauref01_Of.calls kj6 (Int.tmod a0 65536) 2 t130 _ A20.out).mono ?_); rintro e w49 ⟨rfl, hb⟩; refine ⟨_, rfl, ?_⟩; have n0_ := Aside0.mk (below_step (by repeat (first | (with_reducible first | exact HB.out | apply below_alloc | apply pw_below_drewN | apply below_drew1) | exact HB.out)) hb); clear HB; have HB := n0_; clear n0_; (try clear hb); (try clear hb2); (try clear hk); (try clear hi)))
            go_ret
            exact ⟨by first | rfl | (simp [errW_none, errW_some] <;> rfl) | (simp [*, errW_none, errW_some] <;> rfl), by repeat (first | (with_reducible first | exact HB.out | apply below_alloc | apply pw_below_drewN | apply below_drew1) | exact HB.out)⟩
  · replace c5 := Bool.eq_false_iff.mpr c5
    subst c5
    have H1 : (some false) = some r := by rw [if_neg (show ¬ (false = true) by decide)] at H; exact H
    clear H
    have H := H1
    clear H1
    obtain rfl := Option.some.inj H
    go_enter Try.func3, Try.ntmps3
    go_wp2_with (first | ((with_reducible refine gate_callee (f := 7) rfl ?_); refine goesL_ (some 9) rfl rfl Try.func7 (by kernel_rfl) rfl #[] rfl (by (try simp only [List.map_toArray, List.map_cons, List.map_nil]); first | done | rfl | (simp only [List.length_drop, List.length_take]; rfl)) ?_; (with_reducible refine (portmanteaulaw01_awake.calls k  false _ A4.out).mono ?_); rintro e w50 ⟨rfl, hb⟩; refine ⟨_, rfl, ?_⟩; have n0_ := Aside0.mk (below_step (by repeat (first | (with_reducible first | exact HB.out | apply below_alloc | apply pw_below_drewN | apply below_drew1) | exact HB.out)) hb); clear HB; have HB := n0_; clear n0_; (try clear hb); (try clear hb2); (try clear hk); (try clear hi)))
    go_ret
    exact ⟨by first | rfl | (simp [errW_none, errW_some] <;> rfl) | (simp [*, errW_none, errW_some] <;> rfl), by repeat (first | (with_reducible first | exact HB.out | apply below_alloc | apply pw_below_drewN | apply below_drew1) | exact HB.out)⟩

/-- THE ONE PURE STATEMENT of portmanteaulaw01_CursorWrites: yours. -/
def portmanteaulaw01_CursorWrites.Pure : Prop := ∀ (a0 : Int) (a1 : Int) (a2 : ByteArray), (Lit.int .u64 a0).wf = true → (Lit.int .i64 a1).wf = true → a2.size ≤ 140737488351232 → ∃ k, portmanteaulaw01_CursorWrites.f k a0 a1 a2 = some true
theorem portmanteaulaw01_CursorWrites.walk (P : portmanteaulaw01_CursorWrites.Pure) (a0 : Int) (a1 : Int) (a2 : ByteArray) (w : World) (w0 : (Lit.int .u64 a0).wf = true) (w1 : (Lit.int .i64 a1).wf = true) (w2 : a2.size ≤ 140737488351232) :
    Calls Try.prog 3 #[.int .u64 a0, .int .i64 a1, .string a2] w fun e w' => e = .returned (.bool true) ∧ Below w.heap.size w w' := by
  obtain ⟨k, h⟩ := P a0 a1 a2 w0 w1 w2
  refine (portmanteaulaw01_CursorWrites.calls k a0 a1 a2 true w h).mono ?_
  rintro e w' ⟨rfl, hd⟩
  exact ⟨rfl, hd⟩

end Go.Proofs.Ytegdnkhpkealoaa.P
