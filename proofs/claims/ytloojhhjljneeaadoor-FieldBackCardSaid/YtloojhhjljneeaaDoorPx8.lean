/- Written by a program of this session (wip/print2: a patched copy of a printer), not by print.sh: Lean functions with the answers of the Go functions, and the proofs of that; no condition beside those that stand in each theorem. -/
import Derived.Test.YtloojhhjljneeaaDoorPx0
import Derived.Test.YtloojhhjljneeaaDoorPx1
import Derived.Test.YtloojhhjljneeaaDoorPx6
import Derived.Test.YtloojhhjljneeaaDoorPx7
import Derived.Test.YtloojhhjljneeaaDoorMg1
namespace Go.Proofs.YtloojhhjljneeaaDoor.P
open Go.RowKit Go.Proofs.YtloojhhjljneeaaDoorW.PrintWords Go.Proofs.YtloojhhjljneeaaDoorW.PrintLast Go.Proofs.YtloojhhjljneeaaDoorW.PrintMore
attribute [local go_sem] max2_int min2_int max_two min_two max_three min_three max_four min_four   -- for this text's walks alone
set_option linter.unusedVariables false
set_option linter.unusedSimpArgs false

/-! ### portmanteauref14_ParsePath: function 7 -/
def portmanteauref14_ParsePath.j0 : Nat → ByteArray → ByteArray → Bool → Option (ByteArray × Bool × Int)
  | 0, _, _, _ => none
  | k + 1, x0, x1, x14 => if x14 = true then (some ((⟨#[]⟩ : ByteArray), false, 24)) else (if 1 ≤ 5 then (if 5 ≤ (x0.size : Int) then ((portmanteauref01_Number.f k (x0.extract 1 5)).bind fun t161 => ((portmanteauref02_Sum.f k x1).bind fun t162 => (if t161 = (IntKind.u64.wrap (t162)) then ((portmanteauref10_Strays.f k (x0.extract 5 x0.size)).bind fun t163 => (if t163 = true then (some ((⟨#[]⟩ : ByteArray), false, 20)) else (some (x0.extract 5 x0.size, true, 0)))) else (some ((⟨#[]⟩ : ByteArray), false, 0))))) else (none)) else (none))
def portmanteauref14_ParsePath.f (k : Nat) (a0 : ByteArray) (a1 : ByteArray) : Option (ByteArray × Bool × Int) := if (a0.size : Int) < 5 then (portmanteauref14_ParsePath.j0 k a0 a1 true) else (if 0 < (a0.size : Int) then (portmanteauref14_ParsePath.j0 k a0 a1 ((bt a0 0) != 1)) else (none))
theorem portmanteauref14_ParsePath.mono_l : ∀ k, (∀ y0 y1 y2, LeO (portmanteauref14_ParsePath.j0 k y0 y1 y2) (portmanteauref14_ParsePath.j0 (k + 1) y0 y1 y2))
  | 0 => fun _ _ _ r h => by simp [portmanteauref14_ParsePath.j0] at h
  | k + 1 => by
    have ih0 := portmanteauref14_ParsePath.mono_l k
    · intro y0 y1 y2
      unfold portmanteauref14_ParsePath.j0
      repeat' first
      | (with_reducible exact ih0 _ _ _)
      | (with_reducible exact portmanteauref01_Number.mono _ _)
      | (with_reducible exact portmanteauref02_Sum.mono _ _)
      | (with_reducible exact portmanteauref10_Strays.mono _ _)
      | (with_reducible exact LeO.refl _)
      | (with_reducible exact LeO.none _)
      | (with_reducible refine LeO.ite ?_ ?_)
      | (with_reducible refine LeO.bind ?_ (fun _ => ?_))
      | exact ih0 _ _ _
      | exact portmanteauref01_Number.mono _ _
      | exact portmanteauref02_Sum.mono _ _
      | exact portmanteauref10_Strays.mono _ _
      | exact LeO.none _
      | refine LeO.ite ?_ ?_
      | refine LeO.bind ?_ (fun _ => ?_)
theorem portmanteauref14_ParsePath.mono : ∀ a0 a1 k, LeO (portmanteauref14_ParsePath.f k a0 a1) (portmanteauref14_ParsePath.f (k + 1) a0 a1) := by
  intro a0 a1 k
  have ih0 := portmanteauref14_ParsePath.mono_l k
  unfold portmanteauref14_ParsePath.f
  repeat' first
      | (with_reducible exact ih0 _ _ _)
      | (with_reducible exact portmanteauref01_Number.mono _ _)
      | (with_reducible exact portmanteauref02_Sum.mono _ _)
      | (with_reducible exact portmanteauref10_Strays.mono _ _)
      | (with_reducible exact LeO.refl _)
      | (with_reducible exact LeO.none _)
      | (with_reducible refine LeO.ite ?_ ?_)
      | (with_reducible refine LeO.bind ?_ (fun _ => ?_))
      | exact ih0 _ _ _
      | exact portmanteauref01_Number.mono _ _
      | exact portmanteauref02_Sum.mono _ _
      | exact portmanteauref10_Strays.mono _ _
      | exact LeO.none _
      | refine LeO.ite ?_ ?_
      | refine LeO.bind ?_ (fun _ => ?_)
set_option maxHeartbeats 8000000 in
set_option maxRecDepth 100000 in
theorem portmanteauref14_ParsePath.calls (k : Nat) (a0 : ByteArray) (a1 : ByteArray) (r1 : ByteArray) (r2 : Bool) (r3 : Int) (w : World) (h : portmanteauref14_ParsePath.f k a0 a1 = some (r1, r2, r3)) :
    Calls Tryd.prog 7 #[.string a0, .string a1] w fun e w' => e = .returned (.tuple #[.string r1, .bool r2, .int .i64 r3]) ∧ Drawn0 w w' := by
  have H : (if (a0.size : Int) < 5 then (portmanteauref14_ParsePath.j0 k a0 a1 true) else (if 0 < (a0.size : Int) then (portmanteauref14_ParsePath.j0 k a0 a1 ((bt a0 0) != 1)) else (none))) = some (r1, r2, r3) := h
  clear h
  have HC3 := Aside0.mk H
  clear H
  go_enter Tryd.func7, Tryd.ntmps7
  go_upto_region 1 with (fail)
  go_cut [14] (fun v14 wc => ∃ (kq : Nat) (x14_2 : Bool), v14 = .bool x14_2 ∧ Aside0 (portmanteauref14_ParsePath.j0 kq a0 a1 x14_2 = some (r1, r2, r3)) ∧ Aside0 (kq ≤ k) ∧ Drawn0 w wc)
  case first =>
    have H := HC3.out
    clear HC3
    by_cases c4 : (a0.size : Int) < 5
    · rw [if_pos c4] at H
      have c4b0 : decide ((a0.size : Int) < 5) = true := decide_eq_true c4
      have c4b1 : decide (a0.size < 5) = true := decide_eq_true (by omega)
      clear c4
      (first | rw [c4b0] | (simp only [i64_w, i32_w]; rw [c4b0]) | skip)
      have H' := Aside0.mk H
      clear H
      go_wp2
      go_meet
      case rel => exact ⟨_, (true), (by first | rfl | (simp; done) | (simp [*]; done)), H', ⟨by first | omega | exact Nat.le_refl _⟩, by repeat (first | exact Drawn0.refl _ | apply Drawn0.step)⟩
    · rw [if_neg c4] at H
      have c4b0 : decide ((a0.size : Int) < 5) = false := decide_eq_false c4
      have c4b1 : decide (a0.size < 5) = false := decide_eq_false (by omega)
      clear c4
      (first | rw [c4b0] | (simp only [i64_w, i32_w]; rw [c4b0]) | skip)
      by_cases c5 : 0 < (a0.size : Int)
      · rw [if_pos c5] at H
        have c5b0 : decide (0 < (a0.size : Int)) = true := decide_eq_true c5
        have c5b1 : decide (0 < a0.size) = true := decide_eq_true (by omega)
        clear c5
        have H' := Aside0.mk H
        clear H
        have p6 : 0 ≤ (0 : Int) := (by omega)
        have q6 : 0 < a0.size := (by have : (0 : Int) < (a0.size : Int) := of_decide_eq_true (by first | (with_reducible assumption) | assumption); omega)
        have hx6 : ∀ h : 0 < a0.size, ((a0[0]'h).toNat : Int) = bt a0 0 := bt_at a0 0
        clear p6
        have qi6 : (0 < (a0.size : Int)) = True := eq_true (of_decide_eq_true (by first | (with_reducible assumption) | assumption))
        replace q6 := eq_true q6
        go_wp2
        go_meet
        case rel => exact ⟨_, (((bt a0 0) != 1)), (by first | rfl | (simp; done) | (simp [*]; done)), H', ⟨by first | omega | exact Nat.le_refl _⟩, by repeat (first | exact Drawn0.refl _ | apply Drawn0.step)⟩
      · rw [if_neg c5] at H
        exact absurd H (by simp)
  case rest =>
    clear HC3
    try clear p2
    try clear c4
    try clear c4b0
    try clear c4b1
    try clear c5
    try clear c5b0
    try clear c5b1
    try clear p6
    try clear q6
    try clear hx6
    try clear qi6
    try clear p6
    try clear q6
    obtain ⟨kq, x14_2, rfl, HA, HJ2, ⟨mc2, rfl⟩⟩ := hcut
    cases kq with
    | zero => exact absurd HA.out (by simp [portmanteauref14_ParsePath.j0])
    | succ kj2 =>
      have H := HA.out
      clear HA
      simp only [portmanteauref14_ParsePath.j0] at H
      by_cases c7 : x14_2 = true
      · subst c7
        have H1 : (some ((⟨#[]⟩ : ByteArray), false, 24)) = some (r1, r2, r3) := by rw [if_pos rfl] at H; exact H
        clear H
        have H := H1
        clear H1
        simp only [Option.some.injEq, Prod.mk.injEq] at H
        obtain ⟨rfl, rfl, rfl⟩ := H
        go_wp2
        go_ret3
        exact ⟨by first | rfl | (simp; done) | (simp [*]; done), by repeat (first | exact Drawn0.refl _ | apply Drawn0.step)⟩
      · replace c7 := Bool.eq_false_iff.mpr c7
        subst c7
        have H1 : (if 1 ≤ 5 then (if 5 ≤ (a0.size : Int) then ((portmanteauref01_Number.f kj2 (a0.extract 1 5)).bind fun t161 => ((portmanteauref02_Sum.f kj2 a1).bind fun t162 => (if t161 = (IntKind.u64.wrap (t162)) then ((portmanteauref10_Strays.f kj2 (a0.extract 5 a0.size)).bind fun t163 => (if t163 = true then (some ((⟨#[]⟩ : ByteArray), false, 20)) else (some (a0.extract 5 a0.size, true, 0)))) else (some ((⟨#[]⟩ : ByteArray), false, 0))))) else (none)) else (none)) = some (r1, r2, r3) := by rw [if_neg (show ¬ (false = true) by decide)] at H; exact H
        clear H
        have H := H1
        clear H1
        by_cases c8 : 1 ≤ 5
        · rw [if_pos c8] at H
          have c8b0 := eq_true c8
          have c8b1 : decide (1 ≤ 5) = true := decide_eq_true c8
          clear c8
          by_cases c9 : 5 ≤ (a0.size : Int)
          · rw [if_pos c9] at H
            have c9b0 := eq_true c9
            have c9b1 : decide (5 ≤ (a0.size : Int)) = true := decide_eq_true c9
            clear c9
            replace H := Option.bind_eq_some_iff.mp H
            obtain ⟨t161, A100, H⟩ := H
            replace H : ((portmanteauref02_Sum.f kj2 a1).bind fun t162 => (if t161 = (IntKind.u64.wrap (t162)) then ((portmanteauref10_Strays.f kj2 (a0.extract 5 a0.size)).bind fun t163 => (if t163 = true then (some ((⟨#[]⟩ : ByteArray), false, 20)) else (some (a0.extract 5 a0.size, true, 0)))) else (some ((⟨#[]⟩ : ByteArray), false, 0)))) = some (r1, r2, r3) := H
            have A10 := Aside0.mk A100
            clear A100
            replace H := Option.bind_eq_some_iff.mp H
            obtain ⟨t162, A110, H⟩ := H
            replace H : (if t161 = (IntKind.u64.wrap (t162)) then ((portmanteauref10_Strays.f kj2 (a0.extract 5 a0.size)).bind fun t163 => (if t163 = true then (some ((⟨#[]⟩ : ByteArray), false, 20)) else (some (a0.extract 5 a0.size, true, 0)))) else (some ((⟨#[]⟩ : ByteArray), false, 0))) = some (r1, r2, r3) := H
            have A11 := Aside0.mk A110
            clear A110
            by_cases c12 : t161 = (IntKind.u64.wrap (t162))
            · rw [if_pos c12] at H
              have c12b0 : (t161 == (IntKind.u64.wrap (t162))) = true := beq_iff_eq.mpr c12
              have c12b1 : (t161 != (IntKind.u64.wrap (t162))) = false := bne_eq_false_iff_eq.mpr c12
              clear c12
              have c13b0 := eq_true (of_decide_eq_true (by first | (with_reducible assumption) | assumption) : 5 ≤ (a0.size : Int))
              replace H := Option.bind_eq_some_iff.mp H
              obtain ⟨t163, A140, H⟩ := H
              replace H : (if t163 = true then (some ((⟨#[]⟩ : ByteArray), false, 20)) else (some (a0.extract 5 a0.size, true, 0))) = some (r1, r2, r3) := H
              have A14 := Aside0.mk A140
              clear A140
              by_cases c15 : t163 = true
              · subst c15
                have H1 : (some ((⟨#[]⟩ : ByteArray), false, 20)) = some (r1, r2, r3) := by rw [if_pos rfl] at H; exact H
                clear H
                have H := H1
                clear H1
                simp only [Option.some.injEq, Prod.mk.injEq] at H
                obtain ⟨rfl, rfl, rfl⟩ := H
                go_wp2_with (first | ((with_reducible refine gate_callee (f := 25) rfl ?_); refine goesL_ (some 17) rfl rfl Tryd.func25 (by kernel_rfl) rfl #[.string (a0.extract 1 5)] rfl (by (try simp only [List.map_toArray, List.map_cons, List.map_nil]); first | done | rfl | (simp only [List.length_drop, List.length_take]; rfl)) ?_; (with_reducible refine (portmanteauref01_Number.calls kj2 (a0.extract 1 5) t161 _ A10.out).mono ?_); rintro e w' ⟨rfl, ⟨nd, rfl⟩⟩; refine ⟨_, rfl, ?_⟩) | ((with_reducible refine gate_callee (f := 26) rfl ?_); refine goesL_ (some 19) rfl rfl Tryd.func26 (by kernel_rfl) rfl #[.string a1] rfl (by (try simp only [List.map_toArray, List.map_cons, List.map_nil]); first | done | rfl | (simp only [List.length_drop, List.length_take]; rfl)) ?_; (with_reducible refine (portmanteauref02_Sum.calls kj2 a1 t162 _ A11.out).mono ?_); rintro e w' ⟨rfl, ⟨nd, rfl⟩⟩; refine ⟨_, rfl, ?_⟩) | ((with_reducible refine gate_callee (f := 16) rfl ?_); refine goesL_ (some 24) rfl rfl Tryd.func16 (by kernel_rfl) rfl #[.string (a0.extract 5 a0.size)] rfl (by (try simp only [List.map_toArray, List.map_cons, List.map_nil]); first | done | rfl | (simp only [List.length_drop, List.length_take]; rfl)) ?_; (with_reducible refine (portmanteauref10_Strays.calls kj2 (a0.extract 5 a0.size) true _ A14.out).mono ?_); rintro e w' ⟨rfl, ⟨nd, rfl⟩⟩; refine ⟨_, rfl, ?_⟩))
                go_ret3
                exact ⟨by first | rfl | (simp; done) | (simp [*]; done), by repeat (first | exact Drawn0.refl _ | apply Drawn0.step)⟩
              · replace c15 := Bool.eq_false_iff.mpr c15
                subst c15
                have H1 : (some (a0.extract 5 a0.size, true, 0)) = some (r1, r2, r3) := by rw [if_neg (show ¬ (false = true) by decide)] at H; exact H
                clear H
                have H := H1
                clear H1
                have c16b0 := eq_true (of_decide_eq_true (by first | (with_reducible assumption) | assumption) : 5 ≤ (a0.size : Int))
                simp only [Option.some.injEq, Prod.mk.injEq] at H
                obtain ⟨rfl, rfl, rfl⟩ := H
                go_wp2_with (first | ((with_reducible refine gate_callee (f := 25) rfl ?_); refine goesL_ (some 17) rfl rfl Tryd.func25 (by kernel_rfl) rfl #[.string (a0.extract 1 5)] rfl (by (try simp only [List.map_toArray, List.map_cons, List.map_nil]); first | done | rfl | (simp only [List.length_drop, List.length_take]; rfl)) ?_; (with_reducible refine (portmanteauref01_Number.calls kj2 (a0.extract 1 5) t161 _ A10.out).mono ?_); rintro e w' ⟨rfl, ⟨nd, rfl⟩⟩; refine ⟨_, rfl, ?_⟩) | ((with_reducible refine gate_callee (f := 26) rfl ?_); refine goesL_ (some 19) rfl rfl Tryd.func26 (by kernel_rfl) rfl #[.string a1] rfl (by (try simp only [List.map_toArray, List.map_cons, List.map_nil]); first | done | rfl | (simp only [List.length_drop, List.length_take]; rfl)) ?_; (with_reducible refine (portmanteauref02_Sum.calls kj2 a1 t162 _ A11.out).mono ?_); rintro e w' ⟨rfl, ⟨nd, rfl⟩⟩; refine ⟨_, rfl, ?_⟩) | ((with_reducible refine gate_callee (f := 16) rfl ?_); refine goesL_ (some 24) rfl rfl Tryd.func16 (by kernel_rfl) rfl #[.string (a0.extract 5 a0.size)] rfl (by (try simp only [List.map_toArray, List.map_cons, List.map_nil]); first | done | rfl | (simp only [List.length_drop, List.length_take]; rfl)) ?_; (with_reducible refine (portmanteauref10_Strays.calls kj2 (a0.extract 5 a0.size) false _ A14.out).mono ?_); rintro e w' ⟨rfl, ⟨nd, rfl⟩⟩; refine ⟨_, rfl, ?_⟩))
                go_ret3
                exact ⟨by first | rfl | (simp; done) | (simp [*]; done), by repeat (first | exact Drawn0.refl _ | apply Drawn0.step)⟩
            · rw [if_neg c12] at H
              have c12b0 : (t161 == (IntKind.u64.wrap (t162))) = false := beq_eq_false_iff_ne.mpr c12
              have c12b1 : (t161 != (IntKind.u64.wrap (t162))) = true := bne_iff_ne.mpr c12
              simp only [Option.some.injEq, Prod.mk.injEq] at H
              obtain ⟨rfl, rfl, rfl⟩ := H
              go_wp2_with (first | ((with_reducible refine gate_callee (f := 25) rfl ?_); refine goesL_ (some 17) rfl rfl Tryd.func25 (by kernel_rfl) rfl #[.string (a0.extract 1 5)] rfl (by (try simp only [List.map_toArray, List.map_cons, List.map_nil]); first | done | rfl | (simp only [List.length_drop, List.length_take]; rfl)) ?_; (with_reducible refine (portmanteauref01_Number.calls kj2 (a0.extract 1 5) t161 _ A10.out).mono ?_); rintro e w' ⟨rfl, ⟨nd, rfl⟩⟩; refine ⟨_, rfl, ?_⟩) | ((with_reducible refine gate_callee (f := 26) rfl ?_); refine goesL_ (some 19) rfl rfl Tryd.func26 (by kernel_rfl) rfl #[.string a1] rfl (by (try simp only [List.map_toArray, List.map_cons, List.map_nil]); first | done | rfl | (simp only [List.length_drop, List.length_take]; rfl)) ?_; (with_reducible refine (portmanteauref02_Sum.calls kj2 a1 t162 _ A11.out).mono ?_); rintro e w' ⟨rfl, ⟨nd, rfl⟩⟩; refine ⟨_, rfl, ?_⟩))
              go_ret3
              exact ⟨by first | rfl | (simp; done) | (simp [*]; done), by repeat (first | exact Drawn0.refl _ | apply Drawn0.step)⟩
          · rw [if_neg c9] at H
            exact absurd H (by simp)
        · rw [if_neg c8] at H
          exact absurd H (by simp)

/-! ### field_PrintPath: function 8 -/
def field_PrintPath.f (k : Nat) (a0 : ByteArray) (a1 : ByteArray) : Option (ByteArray) := (field_sum.f a1).bind fun t164 => ((cursor_Four.f k t164).bind fun t165 => (if 1 + t165.size ≤ 9223372036854775807 then (if 1 + t165.size + a0.size ≤ 9223372036854775807 then (some (((⟨#[1]⟩ : ByteArray) ++ t165) ++ a0)) else (none)) else (none)))
theorem field_PrintPath.mono : ∀ a0 a1 k, LeO (field_PrintPath.f k a0 a1) (field_PrintPath.f (k + 1) a0 a1) := by
  intro a0 a1 k
  unfold field_PrintPath.f
  repeat' first
      | (with_reducible exact cursor_Four.mono _ _)
      | (with_reducible exact LeO.refl _)
      | (with_reducible exact LeO.none _)
      | (with_reducible refine LeO.ite ?_ ?_)
      | (with_reducible refine LeO.bind ?_ (fun _ => ?_))
      | exact cursor_Four.mono _ _
      | exact LeO.none _
      | refine LeO.ite ?_ ?_
      | refine LeO.bind ?_ (fun _ => ?_)
set_option maxHeartbeats 8000000 in
set_option maxRecDepth 100000 in
theorem field_PrintPath.calls (k : Nat) (a0 : ByteArray) (a1 : ByteArray) (r : ByteArray) (w : World) (h : field_PrintPath.f k a0 a1 = some r) :
    Calls Tryd.prog 8 #[.string a0, .string a1] w fun e w' => e = .returned (.string r) ∧ Below w.heap.size w w' := by
  have HB := Aside0.mk (Below.refl w.heap.size w)
  have H : ((field_sum.f a1).bind fun t164 => ((cursor_Four.f k t164).bind fun t165 => (if 1 + t165.size ≤ 9223372036854775807 then (if 1 + t165.size + a0.size ≤ 9223372036854775807 then (some (((⟨#[1]⟩ : ByteArray) ++ t165) ++ a0)) else (none)) else (none)))) = some r := h
  clear h
  replace H := Option.bind_eq_some_iff.mp H
  obtain ⟨t164, A30, H⟩ := H
  replace H : ((cursor_Four.f k t164).bind fun t165 => (if 1 + t165.size ≤ 9223372036854775807 then (if 1 + t165.size + a0.size ≤ 9223372036854775807 then (some (((⟨#[1]⟩ : ByteArray) ++ t165) ++ a0)) else (none)) else (none))) = some r := H
  have A3 := Aside0.mk A30
  clear A30
  replace H := Option.bind_eq_some_iff.mp H
  obtain ⟨t165, A40, H⟩ := H
  replace H : (if 1 + t165.size ≤ 9223372036854775807 then (if 1 + t165.size + a0.size ≤ 9223372036854775807 then (some (((⟨#[1]⟩ : ByteArray) ++ t165) ++ a0)) else (none)) else (none)) = some r := H
  have A4 := Aside0.mk A40
  clear A40
  by_cases c5 : 1 + t165.size ≤ 9223372036854775807
  · rw [if_pos c5] at H
    have c5b0 := eq_true c5
    have c5b1 : decide (1 + t165.size ≤ 9223372036854775807) = true := decide_eq_true c5
    try have c5b2 : (9223372036854775807 < 1 + t165.size) = False := eq_false (Nat.not_lt.2 c5)
    by_cases c6 : 1 + t165.size + a0.size ≤ 9223372036854775807
    · rw [if_pos c6] at H
      have c6b0 := eq_true c6
      have c6b1 : decide (1 + t165.size + a0.size ≤ 9223372036854775807) = true := decide_eq_true c6
      try have c6b2 : (9223372036854775807 < 1 + t165.size + a0.size) = False := eq_false (Nat.not_lt.2 c6)
      obtain rfl := Option.some.inj H
      go_enter Tryd.func8, Tryd.ntmps8
      go_wp2_with (first | ((with_reducible refine gate_callee (f := 23) rfl ?_); refine goesL_ (some 6) rfl rfl Tryd.func23 (by kernel_rfl) rfl #[.string a1] rfl (by (try simp only [List.map_toArray, List.map_cons, List.map_nil]); first | done | rfl | (simp only [List.length_drop, List.length_take]; rfl)) ?_; (with_reducible refine (field_sum.calls a1 t164 _ A3.out).mono ?_); rintro e w7 ⟨rfl, hb⟩; refine ⟨_, rfl, ?_⟩; have n0_ := Aside0.mk (below_step (by repeat (first | (with_reducible first | exact HB.out | apply below_alloc | apply pw_below_drewN | apply below_drew1) | exact HB.out)) hb); clear HB; have HB := n0_; clear n0_; (try clear hb); (try clear hb2); (try clear hk); (try clear hi)) | ((with_reducible refine gate_callee (f := 27) rfl ?_); refine goesL_ (some 7) rfl rfl Tryd.func27 (by kernel_rfl) rfl #[.int .u32 t164] rfl (by (try simp only [List.map_toArray, List.map_cons, List.map_nil]); first | done | rfl | (simp only [List.length_drop, List.length_take]; rfl)) ?_; (with_reducible refine (cursor_Four.calls k t164 t165 _ A4.out).mono ?_); rintro e w8 ⟨rfl, hb⟩; refine ⟨_, rfl, ?_⟩; have n0_ := Aside0.mk (below_step (by repeat (first | (with_reducible first | exact HB.out | apply below_alloc | apply pw_below_drewN | apply below_drew1) | exact HB.out)) hb); clear HB; have HB := n0_; clear n0_; (try clear hb); (try clear hb2); (try clear hk); (try clear hi)))
      go_ret
      exact ⟨by first | rfl | (simp [errW_none, errW_some] <;> rfl) | (simp [*, errW_none, errW_some] <;> rfl), by repeat (first | (with_reducible first | exact HB.out | apply below_alloc | apply pw_below_drewN | apply below_drew1) | exact HB.out)⟩
    · rw [if_neg c6] at H
      exact absurd H (by simp)
  · rw [if_neg c5] at H
    exact absurd H (by simp)

end Go.Proofs.YtloojhhjljneeaaDoor.P
