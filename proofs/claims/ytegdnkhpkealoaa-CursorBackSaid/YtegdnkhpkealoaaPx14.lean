/- Written by a program of this session (wip/print2: a patched copy of a printer), not by print.sh: Lean functions with the answers of the Go functions, and the proofs of that; no condition beside those that stand in each theorem. -/
import Derived.Test.YtegdnkhpkealoaaPx0
import Derived.Test.YtegdnkhpkealoaaPx2
import Derived.Test.YtegdnkhpkealoaaPx3
import Derived.Test.YtegdnkhpkealoaaPx4
import Derived.Test.YtegdnkhpkealoaaPx5
import Derived.Test.YtegdnkhpkealoaaPx7
import Derived.Test.YtegdnkhpkealoaaPx8
import Derived.Test.YtegdnkhpkealoaaPx10
import Derived.Test.YtegdnkhpkealoaaPx11
import Derived.Test.YtegdnkhpkealoaaPx12
import Derived.Test.YtegdnkhpkealoaaPx13
namespace Go.Proofs.Ytegdnkhpkealoaa.P
open Go.RowKit Go.Proofs.YtegdnkhpkealoaaW.PrintWords Go.Proofs.YtegdnkhpkealoaaW.PrintLast Go.Proofs.YtegdnkhpkealoaaW.PrintMore
attribute [local go_sem] max2_int min2_int max_two min_two max_three min_three max_four min_four   -- for this text's walks alone
set_option linter.unusedVariables false
set_option linter.unusedSimpArgs false

/-! ### portmanteaulaw01_CursorBack: function 4 -/
def portmanteaulaw01_CursorBack.j0 : Nat → Int → ByteArray → Bool → ByteArray → Int → Int → Option (Bool)
  | 0, _, _, _, _, _, _ => none
  | k + 1, x2, x9, x11, x161000, x161001, x161002 => (cursor_Cursor_Peek.f x161000 x161001 x161002 3).bind fun bt181 => ((cursor_Number.f k bt181.1).bind fun bt185 => (if x11 = true then (if bt185.2 = 0 then (if bt185.1 = (Go.bits .and .u64 x2 16777215) then ((cursor_Cursor_Err.f bt181.2.1 bt181.2.2.1 bt181.2.2.2).bind fun bt187 => (if bt187.1 = 0 then ((cursor_Cursor_At.f bt187.2.1 bt187.2.2.1 bt187.2.2.2).bind fun bt191 => (some (bt191.1 == (wrap64 ((x9.size : Int) - 3))))) else (some false))) else (some false)) else (some false)) else (some false)))
def portmanteaulaw01_CursorBack.f (k : Nat) (a0 : Int) (a1 : Int) (a2 : Int) (a3 : ByteArray) : Option (Bool) := (portmanteaulaw01_awake.f k).bind fun t152 => (if t152 = true then (if (a3.size : Int) > 2000 then (some true) else ((cursor_Two.f k a0).bind fun t153 => ((cursor_Four.f k a1).bind fun t154 => (if t153.size + t154.size ≤ 9223372036854775807 then (if t153.size + t154.size + a3.size ≤ 9223372036854775807 then ((cursor_Eight.f k a2).bind fun t155 => (if t153.size + t154.size + a3.size + t155.size ≤ 9223372036854775807 then ((cursor_Of.f k a2 3).bind fun t156 => (if t153.size + t154.size + a3.size + t155.size + t156.size ≤ 9223372036854775807 then ((cursor_Over.f ((((t153 ++ t154) ++ a3) ++ t155) ++ t156)).bind fun bt157 => ((cursor_Cursor_Two.f k bt157.1 bt157.2.1 bt157.2.2).bind fun bt161 => (if bt161.1 = a0 then ((cursor_Cursor_Four.f k bt161.2.1 bt161.2.2.1 bt161.2.2.2).bind fun bt165 => (if bt165.1 = a1 then ((cursor_Cursor_Take.f bt165.2.1 bt165.2.2.1 bt165.2.2.2 (a3.size : Int)).bind fun bt169 => (if bt169.1.toList = a3.toList then ((cursor_Cursor_Eight.f k bt169.2.1 bt169.2.2.1 bt169.2.2.2).bind fun bt173 => (if bt173.1 = a2 then ((cursor_Cursor_Left.f bt173.2.1 bt173.2.2.1 bt173.2.2.2).bind fun bt177 => (portmanteaulaw01_CursorBack.j0 k a2 ((((t153 ++ t154) ++ a3) ++ t155) ++ t156) (bt177.1 == 3) bt177.2.1 bt177.2.2.1 bt177.2.2.2)) else (portmanteaulaw01_CursorBack.j0 k a2 ((((t153 ++ t154) ++ a3) ++ t155) ++ t156) false bt173.2.1 bt173.2.2.1 bt173.2.2.2))) else (portmanteaulaw01_CursorBack.j0 k a2 ((((t153 ++ t154) ++ a3) ++ t155) ++ t156) false bt169.2.1 bt169.2.2.1 bt169.2.2.2))) else (portmanteaulaw01_CursorBack.j0 k a2 ((((t153 ++ t154) ++ a3) ++ t155) ++ t156) false bt165.2.1 bt165.2.2.1 bt165.2.2.2))) else (portmanteaulaw01_CursorBack.j0 k a2 ((((t153 ++ t154) ++ a3) ++ t155) ++ t156) false bt161.2.1 bt161.2.2.1 bt161.2.2.2)))) else (none))) else (none))) else (none)) else (none))))) else (some false))
theorem portmanteaulaw01_CursorBack.mono_l : ∀ k, (∀ y0 y1 y2 y3 y4 y5, LeO (portmanteaulaw01_CursorBack.j0 k y0 y1 y2 y3 y4 y5) (portmanteaulaw01_CursorBack.j0 (k + 1) y0 y1 y2 y3 y4 y5))
  | 0 => fun _ _ _ _ _ _ r h => by simp [portmanteaulaw01_CursorBack.j0] at h
  | k + 1 => by
    have ih0 := portmanteaulaw01_CursorBack.mono_l k
    · intro y0 y1 y2 y3 y4 y5
      unfold portmanteaulaw01_CursorBack.j0
      repeat' first
      | (with_reducible exact ih0 _ _ _ _ _ _)
      | (with_reducible exact cursor_Cursor_Eight.mono _ _ _ _)
      | (with_reducible exact cursor_Cursor_Four.mono _ _ _ _)
      | (with_reducible exact cursor_Cursor_Two.mono _ _ _ _)
      | (with_reducible exact cursor_Eight.mono _ _)
      | (with_reducible exact cursor_Four.mono _ _)
      | (with_reducible exact cursor_Number.mono _ _)
      | (with_reducible exact cursor_Of.mono _ _ _)
      | (with_reducible exact cursor_Two.mono _ _)
      | (with_reducible exact portmanteaulaw01_awake.mono _)
      | (with_reducible exact LeO.refl _)
      | (with_reducible exact LeO.none _)
      | (with_reducible refine LeO.ite ?_ ?_)
      | (with_reducible refine LeO.bind ?_ (fun _ => ?_))
      | exact ih0 _ _ _ _ _ _
      | exact cursor_Cursor_Eight.mono _ _ _ _
      | exact cursor_Cursor_Four.mono _ _ _ _
      | exact cursor_Cursor_Two.mono _ _ _ _
      | exact cursor_Eight.mono _ _
      | exact cursor_Four.mono _ _
      | exact cursor_Number.mono _ _
      | exact cursor_Of.mono _ _ _
      | exact cursor_Two.mono _ _
      | exact portmanteaulaw01_awake.mono _
      | exact LeO.none _
      | refine LeO.ite ?_ ?_
      | refine LeO.bind ?_ (fun _ => ?_)
theorem portmanteaulaw01_CursorBack.mono : ∀ a0 a1 a2 a3 k, LeO (portmanteaulaw01_CursorBack.f k a0 a1 a2 a3) (portmanteaulaw01_CursorBack.f (k + 1) a0 a1 a2 a3) := by
  intro a0 a1 a2 a3 k
  have ih0 := portmanteaulaw01_CursorBack.mono_l k
  unfold portmanteaulaw01_CursorBack.f
  repeat' first
      | (with_reducible exact ih0 _ _ _ _ _ _)
      | (with_reducible exact cursor_Cursor_Eight.mono _ _ _ _)
      | (with_reducible exact cursor_Cursor_Four.mono _ _ _ _)
      | (with_reducible exact cursor_Cursor_Two.mono _ _ _ _)
      | (with_reducible exact cursor_Eight.mono _ _)
      | (with_reducible exact cursor_Four.mono _ _)
      | (with_reducible exact cursor_Number.mono _ _)
      | (with_reducible exact cursor_Of.mono _ _ _)
      | (with_reducible exact cursor_Two.mono _ _)
      | (with_reducible exact portmanteaulaw01_awake.mono _)
      | (with_reducible exact LeO.refl _)
      | (with_reducible exact LeO.none _)
      | (with_reducible refine LeO.ite ?_ ?_)
      | (with_reducible refine LeO.bind ?_ (fun _ => ?_))
      | exact ih0 _ _ _ _ _ _
      | exact cursor_Cursor_Eight.mono _ _ _ _
      | exact cursor_Cursor_Four.mono _ _ _ _
      | exact cursor_Cursor_Two.mono _ _ _ _
      | exact cursor_Eight.mono _ _
      | exact cursor_Four.mono _ _
      | exact cursor_Number.mono _ _
      | exact cursor_Of.mono _ _ _
      | exact cursor_Two.mono _ _
      | exact portmanteaulaw01_awake.mono _
      | exact LeO.none _
      | refine LeO.ite ?_ ?_
      | refine LeO.bind ?_ (fun _ => ?_)
set_option maxHeartbeats 8000000 in
set_option maxRecDepth 100000 in
theorem portmanteaulaw01_CursorBack.calls (k : Nat) (a0 : Int) (a1 : Int) (a2 : Int) (a3 : ByteArray) (r : Bool) (w : World) (h : portmanteaulaw01_CursorBack.f k a0 a1 a2 a3 = some r) :
    Calls Try.prog 4 #[.int .u16 a0, .int .u32 a1, .int .u64 a2, .string a3] w fun e w' => e = .returned (.bool r) ∧ Below w.heap.size w w' := by
  have HB := Aside0.mk (Below.refl w.heap.size w)
  have H : ((portmanteaulaw01_awake.f k).bind fun t152 => (if t152 = true then (if (a3.size : Int) > 2000 then (some true) else ((cursor_Two.f k a0).bind fun t153 => ((cursor_Four.f k a1).bind fun t154 => (if t153.size + t154.size ≤ 9223372036854775807 then (if t153.size + t154.size + a3.size ≤ 9223372036854775807 then ((cursor_Eight.f k a2).bind fun t155 => (if t153.size + t154.size + a3.size + t155.size ≤ 9223372036854775807 then ((cursor_Of.f k a2 3).bind fun t156 => (if t153.size + t154.size + a3.size + t155.size + t156.size ≤ 9223372036854775807 then ((cursor_Over.f ((((t153 ++ t154) ++ a3) ++ t155) ++ t156)).bind fun bt157 => ((cursor_Cursor_Two.f k bt157.1 bt157.2.1 bt157.2.2).bind fun bt161 => (if bt161.1 = a0 then ((cursor_Cursor_Four.f k bt161.2.1 bt161.2.2.1 bt161.2.2.2).bind fun bt165 => (if bt165.1 = a1 then ((cursor_Cursor_Take.f bt165.2.1 bt165.2.2.1 bt165.2.2.2 (a3.size : Int)).bind fun bt169 => (if bt169.1.toList = a3.toList then ((cursor_Cursor_Eight.f k bt169.2.1 bt169.2.2.1 bt169.2.2.2).bind fun bt173 => (if bt173.1 = a2 then ((cursor_Cursor_Left.f bt173.2.1 bt173.2.2.1 bt173.2.2.2).bind fun bt177 => (portmanteaulaw01_CursorBack.j0 k a2 ((((t153 ++ t154) ++ a3) ++ t155) ++ t156) (bt177.1 == 3) bt177.2.1 bt177.2.2.1 bt177.2.2.2)) else (portmanteaulaw01_CursorBack.j0 k a2 ((((t153 ++ t154) ++ a3) ++ t155) ++ t156) false bt173.2.1 bt173.2.2.1 bt173.2.2.2))) else (portmanteaulaw01_CursorBack.j0 k a2 ((((t153 ++ t154) ++ a3) ++ t155) ++ t156) false bt169.2.1 bt169.2.2.1 bt169.2.2.2))) else (portmanteaulaw01_CursorBack.j0 k a2 ((((t153 ++ t154) ++ a3) ++ t155) ++ t156) false bt165.2.1 bt165.2.2.1 bt165.2.2.2))) else (portmanteaulaw01_CursorBack.j0 k a2 ((((t153 ++ t154) ++ a3) ++ t155) ++ t156) false bt161.2.1 bt161.2.2.1 bt161.2.2.2)))) else (none))) else (none))) else (none)) else (none))))) else (some false))) = some r := h
  clear h
  replace H := Option.bind_eq_some_iff.mp H
  obtain ⟨t152, A50, H⟩ := H
  replace H : (if t152 = true then (if (a3.size : Int) > 2000 then (some true) else ((cursor_Two.f k a0).bind fun t153 => ((cursor_Four.f k a1).bind fun t154 => (if t153.size + t154.size ≤ 9223372036854775807 then (if t153.size + t154.size + a3.size ≤ 9223372036854775807 then ((cursor_Eight.f k a2).bind fun t155 => (if t153.size + t154.size + a3.size + t155.size ≤ 9223372036854775807 then ((cursor_Of.f k a2 3).bind fun t156 => (if t153.size + t154.size + a3.size + t155.size + t156.size ≤ 9223372036854775807 then ((cursor_Over.f ((((t153 ++ t154) ++ a3) ++ t155) ++ t156)).bind fun bt157 => ((cursor_Cursor_Two.f k bt157.1 bt157.2.1 bt157.2.2).bind fun bt161 => (if bt161.1 = a0 then ((cursor_Cursor_Four.f k bt161.2.1 bt161.2.2.1 bt161.2.2.2).bind fun bt165 => (if bt165.1 = a1 then ((cursor_Cursor_Take.f bt165.2.1 bt165.2.2.1 bt165.2.2.2 (a3.size : Int)).bind fun bt169 => (if bt169.1.toList = a3.toList then ((cursor_Cursor_Eight.f k bt169.2.1 bt169.2.2.1 bt169.2.2.2).bind fun bt173 => (if bt173.1 = a2 then ((cursor_Cursor_Left.f bt173.2.1 bt173.2.2.1 bt173.2.2.2).bind fun bt177 => (portmanteaulaw01_CursorBack.j0 k a2 ((((t153 ++ t154) ++ a3) ++ t155) ++ t156) (bt177.1 == 3) bt177.2.1 bt177.2.2.1 bt177.2.2.2)) else (portmanteaulaw01_CursorBack.j0 k a2 ((((t153 ++ t154) ++ a3) ++ t155) ++ t156) false bt173.2.1 bt173.2.2.1 bt173.2.2.2))) else (portmanteaulaw01_CursorBack.j0 k a2 ((((t153 ++ t154) ++ a3) ++ t155) ++ t156) false bt169.2.1 bt169.2.2.1 bt169.2.2.2))) else (portmanteaulaw01_CursorBack.j0 k a2 ((((t153 ++ t154) ++ a3) ++ t155) ++ t156) false bt165.2.1 bt165.2.2.1 bt165.2.2.2))) else (portmanteaulaw01_CursorBack.j0 k a2 ((((t153 ++ t154) ++ a3) ++ t155) ++ t156) false bt161.2.1 bt161.2.2.1 bt161.2.2.2)))) else (none))) else (none))) else (none)) else (none))))) else (some false)) = some r := H
  have A5 := Aside0.mk A50
  clear A50
  by_cases c6 : t152 = true
  · subst c6
    have H1 : (if (a3.size : Int) > 2000 then (some true) else ((cursor_Two.f k a0).bind fun t153 => ((cursor_Four.f k a1).bind fun t154 => (if t153.size + t154.size ≤ 9223372036854775807 then (if t153.size + t154.size + a3.size ≤ 9223372036854775807 then ((cursor_Eight.f k a2).bind fun t155 => (if t153.size + t154.size + a3.size + t155.size ≤ 9223372036854775807 then ((cursor_Of.f k a2 3).bind fun t156 => (if t153.size + t154.size + a3.size + t155.size + t156.size ≤ 9223372036854775807 then ((cursor_Over.f ((((t153 ++ t154) ++ a3) ++ t155) ++ t156)).bind fun bt157 => ((cursor_Cursor_Two.f k bt157.1 bt157.2.1 bt157.2.2).bind fun bt161 => (if bt161.1 = a0 then ((cursor_Cursor_Four.f k bt161.2.1 bt161.2.2.1 bt161.2.2.2).bind fun bt165 => (if bt165.1 = a1 then ((cursor_Cursor_Take.f bt165.2.1 bt165.2.2.1 bt165.2.2.2 (a3.size : Int)).bind fun bt169 => (if bt169.1.toList = a3.toList then ((cursor_Cursor_Eight.f k bt169.2.1 bt169.2.2.1 bt169.2.2.2).bind fun bt173 => (if bt173.1 = a2 then ((cursor_Cursor_Left.f bt173.2.1 bt173.2.2.1 bt173.2.2.2).bind fun bt177 => (portmanteaulaw01_CursorBack.j0 k a2 ((((t153 ++ t154) ++ a3) ++ t155) ++ t156) (bt177.1 == 3) bt177.2.1 bt177.2.2.1 bt177.2.2.2)) else (portmanteaulaw01_CursorBack.j0 k a2 ((((t153 ++ t154) ++ a3) ++ t155) ++ t156) false bt173.2.1 bt173.2.2.1 bt173.2.2.2))) else (portmanteaulaw01_CursorBack.j0 k a2 ((((t153 ++ t154) ++ a3) ++ t155) ++ t156) false bt169.2.1 bt169.2.2.1 bt169.2.2.2))) else (portmanteaulaw01_CursorBack.j0 k a2 ((((t153 ++ t154) ++ a3) ++ t155) ++ t156) false bt165.2.1 bt165.2.2.1 bt165.2.2.2))) else (portmanteaulaw01_CursorBack.j0 k a2 ((((t153 ++ t154) ++ a3) ++ t155) ++ t156) false bt161.2.1 bt161.2.2.1 bt161.2.2.2)))) else (none))) else (none))) else (none)) else (none))))) = some r := by rw [if_pos rfl] at H; exact H
    clear H
    have H := H1
    clear H1
    by_cases c7 : (a3.size : Int) > 2000
    · rw [if_pos c7] at H
      have c7b0 : decide (2000 < (a3.size : Int)) = true := decide_eq_true c7
      have c7b1 : decide (2000 < a3.size) = true := decide_eq_true (by omega)
      clear c7
      obtain rfl := Option.some.inj H
      go_enter Try.func4, Try.ntmps4
      go_wp2_with (first | ((with_reducible refine gate_callee (f := 7) rfl ?_); refine goesL_ (some 14) rfl rfl Try.func7 (by kernel_rfl) rfl #[] rfl (by (try simp only [List.map_toArray, List.map_cons, List.map_nil]); first | done | rfl | (simp only [List.length_drop, List.length_take]; rfl)) ?_; (with_reducible refine (portmanteaulaw01_awake.calls k  true _ A5.out).mono ?_); rintro e w8 ⟨rfl, hb⟩; refine ⟨_, rfl, ?_⟩; have n0_ := Aside0.mk (below_step (by repeat (first | (with_reducible first | exact HB.out | apply below_alloc | apply pw_below_drewN | apply below_drew1) | exact HB.out)) hb); clear HB; have HB := n0_; clear n0_; (try clear hb); (try clear hb2); (try clear hk); (try clear hi)))
      go_ret
      exact ⟨by first | rfl | (simp [errW_none, errW_some] <;> rfl) | (simp [*, errW_none, errW_some] <;> rfl), by repeat (first | (with_reducible first | exact HB.out | apply below_alloc | apply pw_below_drewN | apply below_drew1) | exact HB.out)⟩
    · rw [if_neg c7] at H
      have c7b0 : decide (2000 < (a3.size : Int)) = false := decide_eq_false c7
      have c7b1 : decide (2000 < a3.size) = false := decide_eq_false (by omega)
      clear c7
      replace H := Option.bind_eq_some_iff.mp H
      obtain ⟨t153, A90, H⟩ := H
      replace H : ((cursor_Four.f k a1).bind fun t154 => (if t153.size + t154.size ≤ 9223372036854775807 then (if t153.size + t154.size + a3.size ≤ 9223372036854775807 then ((cursor_Eight.f k a2).bind fun t155 => (if t153.size + t154.size + a3.size + t155.size ≤ 9223372036854775807 then ((cursor_Of.f k a2 3).bind fun t156 => (if t153.size + t154.size + a3.size + t155.size + t156.size ≤ 9223372036854775807 then ((cursor_Over.f ((((t153 ++ t154) ++ a3) ++ t155) ++ t156)).bind fun bt157 => ((cursor_Cursor_Two.f k bt157.1 bt157.2.1 bt157.2.2).bind fun bt161 => (if bt161.1 = a0 then ((cursor_Cursor_Four.f k bt161.2.1 bt161.2.2.1 bt161.2.2.2).bind fun bt165 => (if bt165.1 = a1 then ((cursor_Cursor_Take.f bt165.2.1 bt165.2.2.1 bt165.2.2.2 (a3.size : Int)).bind fun bt169 => (if bt169.1.toList = a3.toList then ((cursor_Cursor_Eight.f k bt169.2.1 bt169.2.2.1 bt169.2.2.2).bind fun bt173 => (if bt173.1 = a2 then ((cursor_Cursor_Left.f bt173.2.1 bt173.2.2.1 bt173.2.2.2).bind fun bt177 => (portmanteaulaw01_CursorBack.j0 k a2 ((((t153 ++ t154) ++ a3) ++ t155) ++ t156) (bt177.1 == 3) bt177.2.1 bt177.2.2.1 bt177.2.2.2)) else (portmanteaulaw01_CursorBack.j0 k a2 ((((t153 ++ t154) ++ a3) ++ t155) ++ t156) false bt173.2.1 bt173.2.2.1 bt173.2.2.2))) else (portmanteaulaw01_CursorBack.j0 k a2 ((((t153 ++ t154) ++ a3) ++ t155) ++ t156) false bt169.2.1 bt169.2.2.1 bt169.2.2.2))) else (portmanteaulaw01_CursorBack.j0 k a2 ((((t153 ++ t154) ++ a3) ++ t155) ++ t156) false bt165.2.1 bt165.2.2.1 bt165.2.2.2))) else (portmanteaulaw01_CursorBack.j0 k a2 ((((t153 ++ t154) ++ a3) ++ t155) ++ t156) false bt161.2.1 bt161.2.2.1 bt161.2.2.2)))) else (none))) else (none))) else (none)) else (none))) = some r := H
      have A9 := Aside0.mk A90
      clear A90
      replace H := Option.bind_eq_some_iff.mp H
      obtain ⟨t154, A100, H⟩ := H
      replace H : (if t153.size + t154.size ≤ 9223372036854775807 then (if t153.size + t154.size + a3.size ≤ 9223372036854775807 then ((cursor_Eight.f k a2).bind fun t155 => (if t153.size + t154.size + a3.size + t155.size ≤ 9223372036854775807 then ((cursor_Of.f k a2 3).bind fun t156 => (if t153.size + t154.size + a3.size + t155.size + t156.size ≤ 9223372036854775807 then ((cursor_Over.f ((((t153 ++ t154) ++ a3) ++ t155) ++ t156)).bind fun bt157 => ((cursor_Cursor_Two.f k bt157.1 bt157.2.1 bt157.2.2).bind fun bt161 => (if bt161.1 = a0 then ((cursor_Cursor_Four.f k bt161.2.1 bt161.2.2.1 bt161.2.2.2).bind fun bt165 => (if bt165.1 = a1 then ((cursor_Cursor_Take.f bt165.2.1 bt165.2.2.1 bt165.2.2.2 (a3.size : Int)).bind fun bt169 => (if bt169.1.toList = a3.toList then ((cursor_Cursor_Eight.f k bt169.2.1 bt169.2.2.1 bt169.2.2.2).bind fun bt173 => (if bt173.1 = a2 then ((cursor_Cursor_Left.f bt173.2.1 bt173.2.2.1 bt173.2.2.2).bind fun bt177 => (portmanteaulaw01_CursorBack.j0 k a2 ((((t153 ++ t154) ++ a3) ++ t155) ++ t156) (bt177.1 == 3) bt177.2.1 bt177.2.2.1 bt177.2.2.2)) else (portmanteaulaw01_CursorBack.j0 k a2 ((((t153 ++ t154) ++ a3) ++ t155) ++ t156) false bt173.2.1 bt173.2.2.1 bt173.2.2.2))) else (portmanteaulaw01_CursorBack.j0 k a2 ((((t153 ++ t154) ++ a3) ++ t155) ++ t156) false bt169.2.1 bt169.2.2.1 bt169.2.2.2))) else (portmanteaulaw01_CursorBack.j0 k a2 ((((t153 ++ t154) ++ a3) ++ t155) ++ t156) false bt165.2.1 bt165.2.2.1 bt165.2.2.2))) else (portmanteaulaw01_CursorBack.j0 k a2 ((((t153 ++ t154) ++ a3) ++ t155) ++ t156) false bt161.2.1 bt161.2.2.1 bt161.2.2.2)))) else (none))) else (none))) else (none)) else (none)) = some r := H
      have A10 := Aside0.mk A100
      clear A100
      by_cases c11 : t153.size + t154.size ≤ 9223372036854775807
      · rw [if_pos c11] at H
        have c11b0 := eq_true c11
        have c11b1 : decide (t153.size + t154.size ≤ 9223372036854775807) = true := decide_eq_true c11
        try have c11b2 : (9223372036854775807 < t153.size + t154.size) = False := eq_false (Nat.not_lt.2 c11)
        by_cases c12 : t153.size + t154.size + a3.size ≤ 9223372036854775807
        · rw [if_pos c12] at H
          have c12b0 := eq_true c12
          have c12b1 : decide (t153.size + t154.size + a3.size ≤ 9223372036854775807) = true := decide_eq_true c12
          try have c12b2 : (9223372036854775807 < t153.size + t154.size + a3.size) = False := eq_false (Nat.not_lt.2 c12)
          replace H := Option.bind_eq_some_iff.mp H
          obtain ⟨t155, A130, H⟩ := H
          replace H : (if t153.size + t154.size + a3.size + t155.size ≤ 9223372036854775807 then ((cursor_Of.f k a2 3).bind fun t156 => (if t153.size + t154.size + a3.size + t155.size + t156.size ≤ 9223372036854775807 then ((cursor_Over.f ((((t153 ++ t154) ++ a3) ++ t155) ++ t156)).bind fun bt157 => ((cursor_Cursor_Two.f k bt157.1 bt157.2.1 bt157.2.2).bind fun bt161 => (if bt161.1 = a0 then ((cursor_Cursor_Four.f k bt161.2.1 bt161.2.2.1 bt161.2.2.2).bind fun bt165 => (if bt165.1 = a1 then ((cursor_Cursor_Take.f bt165.2.1 bt165.2.2.1 bt165.2.2.2 (a3.size : Int)).bind fun bt169 => (if bt169.1.toList = a3.toList then ((cursor_Cursor_Eight.f k bt169.2.1 bt169.2.2.1 bt169.2.2.2).bind fun bt173 => (if bt173.1 = a2 then ((cursor_Cursor_Left.f bt173.2.1 bt173.2.2.1 bt173.2.2.2).bind fun bt177 => (portmanteaulaw01_CursorBack.j0 k a2 ((((t153 ++ t154) ++ a3) ++ t155) ++ t156) (bt177.1 == 3) bt177.2.1 bt177.2.2.1 bt177.2.2.2)) else (portmanteaulaw01_CursorBack.j0 k a2 ((((t153 ++ t154) ++ a3) ++ t155) ++ t156) false bt173.2.1 bt173.2.2.1 bt173.2.2.2))) else (portmanteaulaw01_CursorBack.j0 k a2 ((((t153 ++ t154) ++ a3) ++ t155) ++ t156) false bt169.2.1 bt169.2.2.1 bt169.2.2.2))) else (portmanteaulaw01_CursorBack.j0 k a2 ((((t153 ++ t154) ++ a3) ++ t155) ++ t156) false bt165.2.1 bt165.2.2.1 bt165.2.2.2))) else (portmanteaulaw01_CursorBack.j0 k a2 ((((t153 ++ t154) ++ a3) ++ t155) ++ t156) false bt161.2.1 bt161.2.2.1 bt161.2.2.2)))) else (none))) else (none)) = some r := H
          have A13 := Aside0.mk A130
          clear A130
          by_cases c14 : t153.size + t154.size + a3.size + t155.size ≤ 9223372036854775807
          · rw [if_pos c14] at H
            have c14b0 := eq_true c14
            have c14b1 : decide (t153.size + t154.size + a3.size + t155.size ≤ 9223372036854775807) = true := decide_eq_true c14
            try have c14b2 : (9223372036854775807 < t153.size + t154.size + a3.size + t155.size) = False := eq_false (Nat.not_lt.2 c14)
            replace H := Option.bind_eq_some_iff.mp H
            obtain ⟨t156, A150, H⟩ := H
            replace H : (if t153.size + t154.size + a3.size + t155.size + t156.size ≤ 9223372036854775807 then ((cursor_Over.f ((((t153 ++ t154) ++ a3) ++ t155) ++ t156)).bind fun bt157 => ((cursor_Cursor_Two.f k bt157.1 bt157.2.1 bt157.2.2).bind fun bt161 => (if bt161.1 = a0 then ((cursor_Cursor_Four.f k bt161.2.1 bt161.2.2.1 bt161.2.2.2).bind fun bt165 => (if bt165.1 = a1 then ((cursor_Cursor_Take.f bt165.2.1 bt165.2.2.1 bt165.2.2.2 (a3.size : Int)).bind fun bt169 => (if bt169.1.toList = a3.toList then ((cursor_Cursor_Eight.f k bt169.2.1 bt169.2.2.1 bt169.2.2.2).bind fun bt173 => (if bt173.1 = a2 then ((cursor_Cursor_Left.f bt173.2.1 bt173.2.2.1 bt173.2.2.2).bind fun bt177 => (portmanteaulaw01_CursorBack.j0 k a2 ((((t153 ++ t154) ++ a3) ++ t155) ++ t156) (bt177.1 == 3) bt177.2.1 bt177.2.2.1 bt177.2.2.2)) else (portmanteaulaw01_CursorBack.j0 k a2 ((((t153 ++ t154) ++ a3) ++ t155) ++ t156) false bt173.2.1 bt173.2.2.1 bt173.2.2.2))) else (portmanteaulaw01_CursorBack.j0 k a2 ((((t153 ++ t154) ++ a3) ++ t155) ++ t156) false bt169.2.1 bt169.2.2.1 bt169.2.2.2))) else (portmanteaulaw01_CursorBack.j0 k a2 ((((t153 ++ t154) ++ a3) ++ t155) ++ t156) false bt165.2.1 bt165.2.2.1 bt165.2.2.2))) else (portmanteaulaw01_CursorBack.j0 k a2 ((((t153 ++ t154) ++ a3) ++ t155) ++ t156) false bt161.2.1 bt161.2.2.1 bt161.2.2.2)))) else (none)) = some r := H
            have A15 := Aside0.mk A150
            clear A150
            by_cases c16 : t153.size + t154.size + a3.size + t155.size + t156.size ≤ 9223372036854775807
            · rw [if_pos c16] at H
              have c16b0 := eq_true c16
              have c16b1 : decide (t153.size + t154.size + a3.size + t155.size + t156.size ≤ 9223372036854775807) = true := decide_eq_true c16
              try have c16b2 : (9223372036854775807 < t153.size + t154.size + a3.size + t155.size + t156.size) = False := eq_false (Nat.not_lt.2 c16)
              replace H := Option.bind_eq_some_iff.mp H
              obtain ⟨⟨t157, t158, t159⟩, A170, H⟩ := H
              replace H : ((cursor_Cursor_Two.f k t157 t158 t159).bind fun bt161 => (if bt161.1 = a0 then ((cursor_Cursor_Four.f k bt161.2.1 bt161.2.2.1 bt161.2.2.2).bind fun bt165 => (if bt165.1 = a1 then ((cursor_Cursor_Take.f bt165.2.1 bt165.2.2.1 bt165.2.2.2 (a3.size : Int)).bind fun bt169 => (if bt169.1.toList = a3.toList then ((cursor_Cursor_Eight.f k bt169.2.1 bt169.2.2.1 bt169.2.2.2).bind fun bt173 => (if bt173.1 = a2 then ((cursor_Cursor_Left.f bt173.2.1 bt173.2.2.1 bt173.2.2.2).bind fun bt177 => (portmanteaulaw01_CursorBack.j0 k a2 ((((t153 ++ t154) ++ a3) ++ t155) ++ t156) (bt177.1 == 3) bt177.2.1 bt177.2.2.1 bt177.2.2.2)) else (portmanteaulaw01_CursorBack.j0 k a2 ((((t153 ++ t154) ++ a3) ++ t155) ++ t156) false bt173.2.1 bt173.2.2.1 bt173.2.2.2))) else (portmanteaulaw01_CursorBack.j0 k a2 ((((t153 ++ t154) ++ a3) ++ t155) ++ t156) false bt169.2.1 bt169.2.2.1 bt169.2.2.2))) else (portmanteaulaw01_CursorBack.j0 k a2 ((((t153 ++ t154) ++ a3) ++ t155) ++ t156) false bt165.2.1 bt165.2.2.1 bt165.2.2.2))) else (portmanteaulaw01_CursorBack.j0 k a2 ((((t153 ++ t154) ++ a3) ++ t155) ++ t156) false bt161.2.1 bt161.2.2.1 bt161.2.2.2))) = some r := H
              have A17 := Aside0.mk A170
              clear A170
              have HC18 := Aside0.mk H
              clear H
              go_enter Try.func4, Try.ntmps4
              go_upto_region 7 with (first | ((with_reducible refine gate_callee (f := 7) rfl ?_); refine goesL_ (some 14) rfl rfl Try.func7 (by kernel_rfl) rfl #[] rfl (by (try simp only [List.map_toArray, List.map_cons, List.map_nil]); first | done | rfl | (simp only [List.length_drop, List.length_take]; rfl)) ?_; (with_reducible refine (portmanteaulaw01_awake.calls k  true _ A5.out).mono ?_); rintro e w19 ⟨rfl, hb⟩; refine ⟨_, rfl, ?_⟩; have n0_ := Aside0.mk (below_step (by repeat (first | (with_reducible first | exact HB.out | apply below_alloc | apply pw_below_drewN | apply below_drew1) | exact HB.out)) hb); clear HB; have HB := n0_; clear n0_; (try clear hb); (try clear hb2); (try clear hk); (try clear hi)) | ((with_reducible refine gate_callee (f := 10) rfl ?_); refine goesL_ (some 20) rfl rfl Try.func10 (by kernel_rfl) rfl #[.int .u16 a0] rfl (by (try simp only [List.map_toArray, List.map_cons, List.map_nil]); first | done | rfl | (simp only [List.length_drop, List.length_take]; rfl)) ?_; (with_reducible refine (cursor_Two.calls k a0 t153 _ A9.out).mono ?_); rintro e w20 ⟨rfl, hb⟩; refine ⟨_, rfl, ?_⟩; have n0_ := Aside0.mk (below_step (by repeat (first | (with_reducible first | exact HB.out | apply below_alloc | apply pw_below_drewN | apply below_drew1) | exact HB.out)) hb); clear HB; have HB := n0_; clear n0_; (try clear hb); (try clear hb2); (try clear hk); (try clear hi)) | ((with_reducible refine gate_callee (f := 12) rfl ?_); refine goesL_ (some 22) rfl rfl Try.func12 (by kernel_rfl) rfl #[.int .u32 a1] rfl (by (try simp only [List.map_toArray, List.map_cons, List.map_nil]); first | done | rfl | (simp only [List.length_drop, List.length_take]; rfl)) ?_; (with_reducible refine (cursor_Four.calls k a1 t154 _ A10.out).mono ?_); rintro e w21 ⟨rfl, hb⟩; refine ⟨_, rfl, ?_⟩; have n0_ := Aside0.mk (below_step (by repeat (first | (with_reducible first | exact HB.out | apply below_alloc | apply pw_below_drewN | apply below_drew1) | exact HB.out)) hb); clear HB; have HB := n0_; clear n0_; (try clear hb); (try clear hb2); (try clear hk); (try clear hi)) | ((with_reducible refine gate_callee (f := 13) rfl ?_); refine goesL_ (some 27) rfl rfl Try.func13 (by kernel_rfl) rfl #[.int .u64 a2] rfl (by (try simp only [List.map_toArray, List.map_cons, List.map_nil]); first | done | rfl | (simp only [List.length_drop, List.length_take]; rfl)) ?_; (with_reducible refine (cursor_Eight.calls k a2 t155 _ A13.out).mono ?_); rintro e w22 ⟨rfl, hb⟩; refine ⟨_, rfl, ?_⟩; have n0_ := Aside0.mk (below_step (by repeat (first | (with_reducible first | exact HB.out | apply below_alloc | apply pw_below_drewN | apply below_drew1) | exact HB.out)) hb); clear HB; have HB := n0_; clear n0_; (try clear hb); (try clear hb2); (try clear hk); (try clear hi)) | ((with_reducible refine gate_callee (f := 14) rfl ?_); refine goesL_ (some 30) rfl rfl Try.func14 (by kernel_rfl) rfl #[.int .u64 a2, .int .i64 3] rfl (by (try simp only [List.map_toArray, List.map_cons, List.map_nil]); first | done | rfl | (simp only [List.length_drop, List.length_take]; rfl)) ?_; (with_reducible refine (cursor_Of.calls k a2 3 t156 _ A15.out).mono ?_); rintro e w23 ⟨rfl, hb⟩; refine ⟨_, rfl, ?_⟩; have n0_ := Aside0.mk (below_step (by repeat (first | (with_reducible first | exact HB.out | apply below_alloc | apply pw_below_drewN | apply below_drew1) | exact HB.out)) hb); clear HB; have HB := n0_; clear n0_; (try clear hb); (try clear hb2); (try clear hk); (try clear hi)) | ((with_reducible refine gate_callee (f := 15) rfl ?_); refine goesL_ (some 33) rfl rfl Try.func15 (by kernel_rfl) rfl #[.string ((((t153 ++ t154) ++ a3) ++ t155) ++ t156)] rfl (by (try simp only [List.map_toArray, List.map_cons, List.map_nil]); first | done | rfl | (simp only [List.length_drop, List.length_take]; rfl)) ?_; (with_reducible refine (cursor_Over.calls ((((t153 ++ t154) ++ a3) ++ t155) ++ t156) t157 t158 t159 w _ ?side1 A17.out).mono ?_); (case side1 => repeat (first | (with_reducible first | exact HB.out | apply below_alloc | apply pw_below_drewN | apply below_drew1) | exact HB.out)); rintro e w24 ⟨g160, rfl, hi, hb, hb2⟩; refine ⟨_, rfl, ?_⟩; have n0_ := Aside0.mk (hb); have n1_ := Aside0.mk (hi); clear HB; have HB := n0_; have HI160 := n1_; clear n0_ n1_; (try clear hb); (try clear hb2); (try clear hk); (try clear hi)))
              (try simp only [Act.put, List.setIfInBounds_toArray, List.set_cons_zero, List.set_cons_succ])
              go_cut [11] (fun v11 wc => ∃ (kq : Nat) (x11_17 : Bool) (x161000_17 : ByteArray) (x161001_17 : Int) (x161002_17 : Int), v11 = .bool x11_17 ∧ Aside0 (portmanteaulaw01_CursorBack.j0 kq a2 ((((t153 ++ t154) ++ a3) ++ t155) ++ t156) x11_17 x161000_17 x161001_17 x161002_17 = some r) ∧ Aside0 (kq ≤ k) ∧ Aside0 (IsS56 w wc g160 x161000_17 x161001_17 x161002_17) ∧ Aside0 (Below w.heap.size w wc))
              case first =>
                have H := HC18.out
                clear HC18
                replace H := Option.bind_eq_some_iff.mp H
                obtain ⟨⟨t161, t162, t163, t164⟩, A250, H⟩ := H
                replace H : (if t161 = a0 then ((cursor_Cursor_Four.f k t162 t163 t164).bind fun bt165 => (if bt165.1 = a1 then ((cursor_Cursor_Take.f bt165.2.1 bt165.2.2.1 bt165.2.2.2 (a3.size : Int)).bind fun bt169 => (if bt169.1.toList = a3.toList then ((cursor_Cursor_Eight.f k bt169.2.1 bt169.2.2.1 bt169.2.2.2).bind fun bt173 => (if bt173.1 = a2 then ((cursor_Cursor_Left.f bt173.2.1 bt173.2.2.1 bt173.2.2.2).bind fun bt177 => (portmanteaulaw01_CursorBack.j0 k a2 ((((t153 ++ t154) ++ a3) ++ t155) ++ t156) (bt177.1 == 3) bt177.2.1 bt177.2.2.1 bt177.2.2.2)) else (portmanteaulaw01_CursorBack.j0 k a2 ((((t153 ++ t154) ++ a3) ++ t155) ++ t156) false bt173.2.1 bt173.2.2.1 bt173.2.2.2))) else (portmanteaulaw01_CursorBack.j0 k a2 ((((t153 ++ t154) ++ a3) ++ t155) ++ t156) false bt169.2.1 bt169.2.2.1 bt169.2.2.2))) else (portmanteaulaw01_CursorBack.j0 k a2 ((((t153 ++ t154) ++ a3) ++ t155) ++ t156) false bt165.2.1 bt165.2.2.1 bt165.2.2.2))) else (portmanteaulaw01_CursorBack.j0 k a2 ((((t153 ++ t154) ++ a3) ++ t155) ++ t156) false t162 t163 t164)) = some r := H
                have A25 := Aside0.mk A250
                clear A250
                by_cases c26 : t161 = a0
                · rw [if_pos c26] at H
                  have c26b0 : (t161 == a0) = true := beq_iff_eq.mpr c26
                  have c26b1 : (t161 != a0) = false := bne_eq_false_iff_eq.mpr c26
                  clear c26
                  (first | rw [c26b0] | (simp only [i64_w, i32_w]; rw [c26b0]) | skip)
                  replace H := Option.bind_eq_some_iff.mp H
                  obtain ⟨⟨t165, t166, t167, t168⟩, A270, H⟩ := H
                  replace H : (if t165 = a1 then ((cursor_Cursor_Take.f t166 t167 t168 (a3.size : Int)).bind fun bt169 => (if bt169.1.toList = a3.toList then ((cursor_Cursor_Eight.f k bt169.2.1 bt169.2.2.1 bt169.2.2.2).bind fun bt173 => (if bt173.1 = a2 then ((cursor_Cursor_Left.f bt173.2.1 bt173.2.2.1 bt173.2.2.2).bind fun bt177 => (portmanteaulaw01_CursorBack.j0 k a2 ((((t153 ++ t154) ++ a3) ++ t155) ++ t156) (bt177.1 == 3) bt177.2.1 bt177.2.2.1 bt177.2.2.2)) else (portmanteaulaw01_CursorBack.j0 k a2 ((((t153 ++ t154) ++ a3) ++ t155) ++ t156) false bt173.2.1 bt173.2.2.1 bt173.2.2.2))) else (portmanteaulaw01_CursorBack.j0 k a2 ((((t153 ++ t154) ++ a3) ++ t155) ++ t156) false bt169.2.1 bt169.2.2.1 bt169.2.2.2))) else (portmanteaulaw01_CursorBack.j0 k a2 ((((t153 ++ t154) ++ a3) ++ t155) ++ t156) false t166 t167 t168)) = some r := H
                  have A27 := Aside0.mk A270
                  clear A270
                  by_cases c28 : t165 = a1
                  · rw [if_pos c28] at H
                    have c28b0 : (t165 == a1) = true := beq_iff_eq.mpr c28
                    have c28b1 : (t165 != a1) = false := bne_eq_false_iff_eq.mpr c28
                    clear c28
                    replace H := Option.bind_eq_some_iff.mp H
                    obtain ⟨⟨t169, t170, t171, t172⟩, A290, H⟩ := H
                    replace H : (if t169.toList = a3.toList then ((cursor_Cursor_Eight.f k t170 t171 t172).bind fun bt173 => (if bt173.1 = a2 then ((cursor_Cursor_Left.f bt173.2.1 bt173.2.2.1 bt173.2.2.2).bind fun bt177 => (portmanteaulaw01_CursorBack.j0 k a2 ((((t153 ++ t154) ++ a3) ++ t155) ++ t156) (bt177.1 == 3) bt177.2.1 bt177.2.2.1 bt177.2.2.2)) else (portmanteaulaw01_CursorBack.j0 k a2 ((((t153 ++ t154) ++ a3) ++ t155) ++ t156) false bt173.2.1 bt173.2.2.1 bt173.2.2.2))) else (portmanteaulaw01_CursorBack.j0 k a2 ((((t153 ++ t154) ++ a3) ++ t155) ++ t156) false t170 t171 t172)) = some r := H
                    have A29 := Aside0.mk A290
                    clear A290
                    by_cases c30 : t169.toList = a3.toList
                    · rw [if_pos c30] at H
                      have c30b0 : (t169.toList == a3.toList) = true := beq_iff_eq.mpr c30
                      have c30b1 : (t169.toList != a3.toList) = false := bne_eq_false_iff_eq.mpr c30
                      clear c30
                      replace H := Option.bind_eq_some_iff.mp H
                      obtain ⟨⟨t173, t174, t175, t176⟩, A310, H⟩ := H
                      replace H : (if t173 = a2 then ((cursor_Cursor_Left.f t174 t175 t176).bind fun bt177 => (portmanteaulaw01_CursorBack.j0 k a2 ((((t153 ++ t154) ++ a3) ++ t155) ++ t156) (bt177.1 == 3) bt177.2.1 bt177.2.2.1 bt177.2.2.2)) else (portmanteaulaw01_CursorBack.j0 k a2 ((((t153 ++ t154) ++ a3) ++ t155) ++ t156) false t174 t175 t176)) = some r := H
                      have A31 := Aside0.mk A310
                      clear A310
                      by_cases c32 : t173 = a2
                      · rw [if_pos c32] at H
                        have c32b0 : (t173 == a2) = true := beq_iff_eq.mpr c32
                        have c32b1 : (t173 != a2) = false := bne_eq_false_iff_eq.mpr c32
                        clear c32
                        replace H := Option.bind_eq_some_iff.mp H
                        obtain ⟨⟨t177, t178, t179, t180⟩, A330, H⟩ := H
                        replace H : (portmanteaulaw01_CursorBack.j0 k a2 ((((t153 ++ t154) ++ a3) ++ t155) ++ t156) (t177 == 3) t178 t179 t180) = some r := H
                        have A33 := Aside0.mk A330
                        clear A330
                        have H' := Aside0.mk H
                        clear H
                        go_wp2_with (first | ((with_reducible refine gate_callee (f := 16) rfl ?_); refine goesL_ (some 35) rfl rfl Try.func16 (by kernel_rfl) rfl #[.pointer (some ⟨g160, 0, none⟩)] rfl (by (try simp only [List.map_toArray, List.map_cons, List.map_nil]); first | done | rfl | (simp only [List.length_drop, List.length_take]; rfl)) ?_; (with_reducible refine (cursor_Cursor_Two.calls k g160 t157 t158 t159 t161 t162 t163 t164 w _ ?side1 ?side2 A25.out).mono ?_); (case side1 => repeat (first | (with_reducible first | exact HI160.out | apply IsS56.alloc | apply IsS56.drewN | apply IsS56.drew | apply IsS56.set_0 | apply IsS56.set_1 | apply IsS56.set_2) | exact HI160.out)); (case side2 => repeat (first | (with_reducible first | exact HB.out | apply below_alloc | apply pw_below_drewN | apply below_drew1 | refine below_set ?_ (IsS56.ge HI160.out)) | exact HB.out)); rintro e w34 ⟨rfl, hi, hb, hk⟩; refine ⟨_, rfl, ?_⟩; have n0_ := Aside0.mk (hb); have n1_ := Aside0.mk (hi); clear HB; clear HI160; have HB := n0_; have HI160 := n1_; clear n0_ n1_; (try clear hb); (try clear hb2); (try clear hk); (try clear hi)) | (go_at_call 17; (with_reducible refine (cursor_Cursor_Four.calls k g160 t162 t163 t164 t165 t166 t167 t168 w _ ?side1 ?side2 A27.out).mono ?_); (case side1 => repeat (first | (with_reducible first | exact HI160.out | apply IsS56.alloc | apply IsS56.drewN | apply IsS56.drew | apply IsS56.set_0 | apply IsS56.set_1 | apply IsS56.set_2) | exact HI160.out)); (case side2 => repeat (first | (with_reducible first | exact HB.out | apply below_alloc | apply pw_below_drewN | apply below_drew1 | refine below_set ?_ (IsS56.ge HI160.out)) | exact HB.out)); rintro e w35 ⟨rfl, hi, hb, hk⟩; have n0_ := Aside0.mk (hb); have n1_ := Aside0.mk (hi); clear HB; clear HI160; have HB := n0_; have HI160 := n1_; clear n0_ n1_; (try clear hb); (try clear hb2); (try clear hk); (try clear hi)) | (go_at_call 18; (with_reducible refine (cursor_Cursor_Take.calls g160 t166 t167 t168 (a3.size : Int) t169 t170 t171 t172 w _ ?side1 ?side2 A29.out).mono ?_); (case side1 => repeat (first | (with_reducible first | exact HI160.out | apply IsS56.alloc | apply IsS56.drewN | apply IsS56.drew | apply IsS56.set_0 | apply IsS56.set_1 | apply IsS56.set_2) | exact HI160.out)); (case side2 => repeat (first | (with_reducible first | exact HB.out | apply below_alloc | apply pw_below_drewN | apply below_drew1 | refine below_set ?_ (IsS56.ge HI160.out)) | exact HB.out)); rintro e w36 ⟨rfl, hi, hb, hk⟩; have n0_ := Aside0.mk (hb); have n1_ := Aside0.mk (hi); clear HB; clear HI160; have HB := n0_; have HI160 := n1_; clear n0_ n1_; (try clear hb); (try clear hb2); (try clear hk); (try clear hi)) | (go_at_call 19; (with_reducible refine (cursor_Cursor_Eight.calls k g160 t170 t171 t172 t173 t174 t175 t176 w _ ?side1 ?side2 A31.out).mono ?_); (case side1 => repeat (first | (with_reducible first | exact HI160.out | apply IsS56.alloc | apply IsS56.drewN | apply IsS56.drew | apply IsS56.set_0 | apply IsS56.set_1 | apply IsS56.set_2) | exact HI160.out)); (case side2 => repeat (first | (with_reducible first | exact HB.out | apply below_alloc | apply pw_below_drewN | apply below_drew1 | refine below_set ?_ (IsS56.ge HI160.out)) | exact HB.out)); rintro e w37 ⟨rfl, hi, hb, hk⟩; have n0_ := Aside0.mk (hb); have n1_ := Aside0.mk (hi); clear HB; clear HI160; have HB := n0_; have HI160 := n1_; clear n0_ n1_; (try clear hb); (try clear hb2); (try clear hk); (try clear hi)) | (go_at_call 20; (with_reducible refine (cursor_Cursor_Left.calls g160 t174 t175 t176 t177 t178 t179 t180 w _ ?side1 ?side2 A33.out).mono ?_); (case side1 => repeat (first | (with_reducible first | exact HI160.out | apply IsS56.alloc | apply IsS56.drewN | apply IsS56.drew | apply IsS56.set_0 | apply IsS56.set_1 | apply IsS56.set_2) | exact HI160.out)); (case side2 => repeat (first | (with_reducible first | exact HB.out | apply below_alloc | apply pw_below_drewN | apply below_drew1 | refine below_set ?_ (IsS56.ge HI160.out)) | exact HB.out)); rintro e w38 ⟨rfl, hi, hb, hk⟩; have n0_ := Aside0.mk (hb); have n1_ := Aside0.mk (hi); clear HB; clear HI160; have HB := n0_; have HI160 := n1_; clear n0_ n1_; (try clear hb); (try clear hb2); (try clear hk); (try clear hi)))
                        go_meet
                        case rel => exact ⟨_, ((t177 == 3)), (t178), (t179), (t180), (by first | rfl | (simp; done) | (simp [*]; done)), H', ⟨by first | omega | exact Nat.le_refl _⟩, ⟨by repeat (first | (with_reducible first | exact HI160.out | apply IsS56.alloc | apply IsS56.drewN | apply IsS56.drew | apply IsS56.set_0 | apply IsS56.set_1 | apply IsS56.set_2) | exact HI160.out)⟩, ⟨by repeat (first | (with_reducible first | exact HB.out | apply below_alloc | apply pw_below_drewN | apply below_drew1 | refine below_set ?_ (IsS56.ge HI160.out)) | exact HB.out)⟩⟩
                      · rw [if_neg c32] at H
                        have c32b0 : (t173 == a2) = false := beq_eq_false_iff_ne.mpr c32
                        have c32b1 : (t173 != a2) = true := bne_iff_ne.mpr c32
                        have H' := Aside0.mk H
                        clear H
                        go_wp2_with (first | ((with_reducible refine gate_callee (f := 16) rfl ?_); refine goesL_ (some 35) rfl rfl Try.func16 (by kernel_rfl) rfl #[.pointer (some ⟨g160, 0, none⟩)] rfl (by (try simp only [List.map_toArray, List.map_cons, List.map_nil]); first | done | rfl | (simp only [List.length_drop, List.length_take]; rfl)) ?_; (with_reducible refine (cursor_Cursor_Two.calls k g160 t157 t158 t159 t161 t162 t163 t164 w _ ?side1 ?side2 A25.out).mono ?_); (case side1 => repeat (first | (with_reducible first | exact HI160.out | apply IsS56.alloc | apply IsS56.drewN | apply IsS56.drew | apply IsS56.set_0 | apply IsS56.set_1 | apply IsS56.set_2) | exact HI160.out)); (case side2 => repeat (first | (with_reducible first | exact HB.out | apply below_alloc | apply pw_below_drewN | apply below_drew1 | refine below_set ?_ (IsS56.ge HI160.out)) | exact HB.out)); rintro e w39 ⟨rfl, hi, hb, hk⟩; refine ⟨_, rfl, ?_⟩; have n0_ := Aside0.mk (hb); have n1_ := Aside0.mk (hi); clear HB; clear HI160; have HB := n0_; have HI160 := n1_; clear n0_ n1_; (try clear hb); (try clear hb2); (try clear hk); (try clear hi)) | (go_at_call 17; (with_reducible refine (cursor_Cursor_Four.calls k g160 t162 t163 t164 t165 t166 t167 t168 w _ ?side1 ?side2 A27.out).mono ?_); (case side1 => repeat (first | (with_reducible first | exact HI160.out | apply IsS56.alloc | apply IsS56.drewN | apply IsS56.drew | apply IsS56.set_0 | apply IsS56.set_1 | apply IsS56.set_2) | exact HI160.out)); (case side2 => repeat (first | (with_reducible first | exact HB.out | apply below_alloc | apply pw_below_drewN | apply below_drew1 | refine below_set ?_ (IsS56.ge HI160.out)) | exact HB.out)); rintro e w40 ⟨rfl, hi, hb, hk⟩; have n0_ := Aside0.mk (hb); have n1_ := Aside0.mk (hi); clear HB; clear HI160; have HB := n0_; have HI160 := n1_; clear n0_ n1_; (try clear hb); (try clear hb2); (try clear hk); (try clear hi)) | (go_at_call 18; (with_reducible refine (cursor_Cursor_Take.calls g160 t166 t167 t168 (a3.size : Int) t169 t170 t171 t172 w _ ?side1 ?side2 A29.out).mono ?_); (case side1 => repeat (first | (with_reducible first | exact HI160.out | apply IsS56.alloc | apply IsS56.drewN | apply IsS56.drew | apply IsS56.set_0 | apply IsS56.set_1 | apply IsS56.set_2) | exact HI160.out)); (case side2 => repeat (first | (with_reducible first | exact HB.out | apply below_alloc | apply pw_below_drewN | apply below_drew1 | refine below_set ?_ (IsS56.ge HI160.out)) | exact HB.out)); rintro e w41 ⟨rfl, hi, hb, hk⟩; have n0_ := Aside0.mk (hb); have n1_ := Aside0.mk (hi); clear HB; clear HI160; have HB := n0_; have HI160 := n1_; clear n0_ n1_; (try clear hb); (try clear hb2); (try clear hk); (try clear hi)) | (go_at_call 19; (with_reducible refine (cursor_Cursor_Eight.calls k g160 t170 t171 t172 t173 t174 t175 t176 w _ ?side1 ?side2 A31.out).mono ?_); (case side1 => repeat (first | (with_reducible first | exact HI160.out | apply IsS56.alloc | apply IsS56.drewN | apply IsS56.drew | apply IsS56.set_0 | apply IsS56.set_1 | apply IsS56.set_2) | exact HI160.out)); (case side2 => repeat (first | (with_reducible first | exact HB.out | apply below_alloc | apply pw_below_drewN | apply below_drew1 | refine below_set ?_ (IsS56.ge HI160.out)) | exact HB.out)); rintro e w42 ⟨rfl, hi, hb, hk⟩; have n0_ := Aside0.mk (hb); have n1_ := Aside0.mk (hi); clear HB; clear HI160; have HB := n0_; have HI160 := n1_; clear n0_ n1_; (try clear hb); (try clear hb2); (try clear hk); (try clear hi)))
                        go_meet
                        case rel => exact ⟨_, (false), (t174), (t175), (t176), (by first | rfl | (simp; done) | (simp [*]; done)), H', ⟨by first | omega | exact Nat.le_refl _⟩, ⟨by repeat (first | (with_reducible first | exact HI160.out | apply IsS56.alloc | apply IsS56.drewN | apply IsS56.drew | apply IsS56.set_0 | apply IsS56.set_1 | apply IsS56.set_2) | exact HI160.out)⟩, ⟨by repeat (first | (with_reducible first | exact HB.out | apply below_alloc | apply pw_below_drewN | apply below_drew1 | refine below_set ?_ (IsS56.ge HI160.out)) | exact HB.out)⟩⟩
                    · rw [if_neg c30] at H
                      have c30b0 : (t169.toList == a3.toList) = false := beq_eq_false_iff_ne.mpr c30
                      have c30b1 : (t169.toList != a3.toList) = true := bne_iff_ne.mpr c30
                      have H' := Aside0.mk H
                      clear H
                      go_wp2_with (first | ((with_reducible refine gate_callee (f := 16) rfl ?_); refine goesL_ (some 35) rfl rfl Try.func16 (by kernel_rfl) rfl #[.pointer (some ⟨g160, 0, none⟩)] rfl (by (try simp only [List.map_toArray, List.map_cons, List.map_nil]); first | done | rfl | (simp only [List.length_drop, List.length_take]; rfl)) ?_; (with_reducible refine (cursor_Cursor_Two.calls k g160 t157 t158 t159 t161 t162 t163 t164 w _ ?side1 ?side2 A25.out).mono ?_); (case side1 => repeat (first | (with_reducible first | exact HI160.out | apply IsS56.alloc | apply IsS56.drewN | apply IsS56.drew | apply IsS56.set_0 | apply IsS56.set_1 | apply IsS56.set_2) | exact HI160.out)); (case side2 => repeat (first | (with_reducible first | exact HB.out | apply below_alloc | apply pw_below_drewN | apply below_drew1 | refine below_set ?_ (IsS56.ge HI160.out)) | exact HB.out)); rintro e w43 ⟨rfl, hi, hb, hk⟩; refine ⟨_, rfl, ?_⟩; have n0_ := Aside0.mk (hb); have n1_ := Aside0.mk (hi); clear HB; clear HI160; have HB := n0_; have HI160 := n1_; clear n0_ n1_; (try clear hb); (try clear hb2); (try clear hk); (try clear hi)) | (go_at_call 17; (with_reducible refine (cursor_Cursor_Four.calls k g160 t162 t163 t164 t165 t166 t167 t168 w _ ?side1 ?side2 A27.out).mono ?_); (case side1 => repeat (first | (with_reducible first | exact HI160.out | apply IsS56.alloc | apply IsS56.drewN | apply IsS56.drew | apply IsS56.set_0 | apply IsS56.set_1 | apply IsS56.set_2) | exact HI160.out)); (case side2 => repeat (first | (with_reducible first | exact HB.out | apply below_alloc | apply pw_below_drewN | apply below_drew1 | refine below_set ?_ (IsS56.ge HI160.out)) | exact HB.out)); rintro e w44 ⟨rfl, hi, hb, hk⟩; have n0_ := Aside0.mk (hb); have n1_ := Aside0.mk (hi); clear HB; clear HI160; have HB := n0_; have HI160 := n1_; clear n0_ n1_; (try clear hb); (try clear hb2); (try clear hk); (try clear hi)) | (go_at_call 18; (with_reducible refine (cursor_Cursor_Take.calls g160 t166 t167 t168 (a3.size : Int) t169 t170 t171 t172 w _ ?side1 ?side2 A29.out).mono ?_); (case side1 => repeat (first | (with_reducible first | exact HI160.out | apply IsS56.alloc | apply IsS56.drewN | apply IsS56.drew | apply IsS56.set_0 | apply IsS56.set_1 | apply IsS56.set_2) | exact HI160.out)); (case side2 => repeat (first | (with_reducible first | exact HB.out | apply below_alloc | apply pw_below_drewN | apply below_drew1 | refine below_set ?_ (IsS56.ge HI160.out)) | exact HB.out)); rintro e w45 ⟨rfl, hi, hb, hk⟩; have n0_ := Aside0.mk (hb); have n1_ := Aside0.mk (hi); clear HB; clear HI160; have HB := n0_; have HI160 := n1_; clear n0_ n1_; (try clear hb); (try clear hb2); (try clear hk); (try clear hi)))
                      go_meet
                      case rel => exact ⟨_, (false), (t170), (t171), (t172), (by first | rfl | (simp; done) | (simp [*]; done)), H', ⟨by first | omega | exact Nat.le_refl _⟩, ⟨by repeat (first | (with_reducible first | exact HI160.out | apply IsS56.alloc | apply IsS56.drewN | apply IsS56.drew | apply IsS56.set_0 | apply IsS56.set_1 | apply IsS56.set_2) | exact HI160.out)⟩, ⟨by repeat (first | (with_reducible first | exact HB.out | apply below_alloc | apply pw_below_drewN | apply below_drew1 | refine below_set ?_ (IsS56.ge HI160.out)) | exact HB.out)⟩⟩
                  · rw [if_neg c28] at H
                    have c28b0 : (t165 == a1) = false := beq_eq_false_iff_ne.mpr c28
                    have c28b1 : (t165 != a1) = true := bne_iff_ne.mpr c28
                    have H' := Aside0.mk H
                    clear H
                    go_wp2_with (first | ((with_reducible refine gate_callee (f := 16) rfl ?_); refine goesL_ (some 35) rfl rfl Try.func16 (by kernel_rfl) rfl #[.pointer (some ⟨g160, 0, none⟩)] rfl (by (try simp only [List.map_toArray, List.map_cons, List.map_nil]); first | done | rfl | (simp only [List.length_drop, List.length_take]; rfl)) ?_; (with_reducible refine (cursor_Cursor_Two.calls k g160 t157 t158 t159 t161 t162 t163 t164 w _ ?side1 ?side2 A25.out).mono ?_); (case side1 => repeat (first | (with_reducible first | exact HI160.out | apply IsS56.alloc | apply IsS56.drewN | apply IsS56.drew | apply IsS56.set_0 | apply IsS56.set_1 | apply IsS56.set_2) | exact HI160.out)); (case side2 => repeat (first | (with_reducible first | exact HB.out | apply below_alloc | apply pw_below_drewN | apply below_drew1 | refine below_set ?_ (IsS56.ge HI160.out)) | exact HB.out)); rintro e w46 ⟨rfl, hi, hb, hk⟩; refine ⟨_, rfl, ?_⟩; have n0_ := Aside0.mk (hb); have n1_ := Aside0.mk (hi); clear HB; clear HI160; have HB := n0_; have HI160 := n1_; clear n0_ n1_; (try clear hb); (try clear hb2); (try clear hk); (try clear hi)) | (go_at_call 17; (with_reducible refine (cursor_Cursor_Four.calls k g160 t162 t163 t164 t165 t166 t167 t168 w _ ?side1 ?side2 A27.out).mono ?_); (case side1 => repeat (first | (with_reducible first | exact HI160.out | apply IsS56.alloc | apply IsS56.drewN | apply IsS56.drew | apply IsS56.set_0 | apply IsS56.set_1 | apply IsS56.set_2) | exact HI160.out)); (case side2 => repeat (first | (with_reducible first | exact HB.out | apply below_alloc | apply pw_below_drewN | apply below_drew1 | refine below_set ?_ (IsS56.ge HI160.out)) | exact HB.out)); rintro e w47 ⟨rfl, hi, hb, hk⟩; have n0_ := Aside0.mk (hb); have n1_ := Aside0.mk (hi); clear HB; clear HI160; have HB := n0_; have HI160 := n1_; clear n0_ n1_; (try clear hb); (try clear hb2); (try clear hk); (try clear hi)))
                    go_meet
                    case rel => exact ⟨_, (false), (t166), (t167), (t168), (by first | rfl | (simp; done) | (simp [*]; done)), H', ⟨by first | omega | exact Nat.le_refl _⟩, ⟨by repeat (first | (with_reducible first | exact HI160.out | apply IsS56.alloc | apply IsS56.drewN | apply IsS56.drew | apply IsS56.set_0 | apply IsS56.set_1 | apply IsS56.set_2) | exact HI160.out)⟩, ⟨by repeat (first | (with_reducible first | exact HB.out | apply below_alloc | apply pw_below_drewN | apply below_drew1 | refine below_set ?_ (IsS56.ge HI160.out)) | exact HB.out)⟩⟩
                · rw [if_neg c26] at H
                  have c26b0 : (t161 == a0) = false := beq_eq_false_iff_ne.mpr c26
                  have c26b1 : (t161 != a0) = true := bne_iff_ne.mpr c26
                  (first | rw [c26b0] | (simp only [i64_w, i32_w]; rw [c26b0]) | skip)
                  have H' := Aside0.mk H
                  clear H
                  go_wp2_with (first | ((with_reducible refine gate_callee (f := 16) rfl ?_); refine goesL_ (some 35) rfl rfl Try.func16 (by kernel_rfl) rfl #[.pointer (some ⟨g160, 0, none⟩)] rfl (by (try simp only [List.map_toArray, List.map_cons, List.map_nil]); first | done | rfl | (simp only [List.length_drop, List.length_take]; rfl)) ?_; (with_reducible refine (cursor_Cursor_Two.calls k g160 t157 t158 t159 t161 t162 t163 t164 w _ ?side1 ?side2 A25.out).mono ?_); (case side1 => repeat (first | (with_reducible first | exact HI160.out | apply IsS56.alloc | apply IsS56.drewN | apply IsS56.drew | apply IsS56.set_0 | apply IsS56.set_1 | apply IsS56.set_2) | exact HI160.out)); (case side2 => repeat (first | (with_reducible first | exact HB.out | apply below_alloc | apply pw_below_drewN | apply below_drew1 | refine below_set ?_ (IsS56.ge HI160.out)) | exact HB.out)); rintro e w48 ⟨rfl, hi, hb, hk⟩; refine ⟨_, rfl, ?_⟩; have n0_ := Aside0.mk (hb); have n1_ := Aside0.mk (hi); clear HB; clear HI160; have HB := n0_; have HI160 := n1_; clear n0_ n1_; (try clear hb); (try clear hb2); (try clear hk); (try clear hi)))
                  go_meet
                  case rel => exact ⟨_, (false), (t162), (t163), (t164), (by first | rfl | (simp; done) | (simp [*]; done)), H', ⟨by first | omega | exact Nat.le_refl _⟩, ⟨by repeat (first | (with_reducible first | exact HI160.out | apply IsS56.alloc | apply IsS56.drewN | apply IsS56.drew | apply IsS56.set_0 | apply IsS56.set_1 | apply IsS56.set_2) | exact HI160.out)⟩, ⟨by repeat (first | (with_reducible first | exact HB.out | apply below_alloc | apply pw_below_drewN | apply below_drew1 | refine below_set ?_ (IsS56.ge HI160.out)) | exact HB.out)⟩⟩
              case rest =>
                clear HC18
                try clear c1
                try clear c2
                try clear p2
                try clear c3
                try clear c4
                try clear c6
                try clear c7
                try clear c7b0
                try clear c7b1
                try clear c10
                try clear c11
                try clear c11b0
                try clear c11b1
                try clear c11b2
                try clear c12
                try clear c12b0
                try clear c12b1
                try clear c12b2
                try clear c13
                try clear c14
                try clear c14b0
                try clear c14b1
                try clear c14b2
                try clear c15
                try clear c16
                try clear c16b0
                try clear c16b1
                try clear c16b2
                try clear c26
                try clear c26b0
                try clear c26b1
                try clear c28
                try clear c28b0
                try clear c28b1
                try clear c30
                try clear c30b0
                try clear c30b1
                try clear c32
                try clear c32b0
                try clear c32b1
                obtain ⟨kq, x11_17, x161000_17, x161001_17, x161002_17, rfl, HA, HJ17, HI160, HB⟩ := hcut
                cases kq with
                | zero => exact absurd HA.out (by simp [portmanteaulaw01_CursorBack.j0])
                | succ kj17 =>
                  have H := HA.out
                  clear HA
                  simp only [portmanteaulaw01_CursorBack.j0] at H
                  replace H := Option.bind_eq_some_iff.mp H
                  obtain ⟨⟨t181, t182, t183, t184⟩, A490, H⟩ := H
                  replace H : ((cursor_Number.f kj17 t181).bind fun bt185 => (if x11_17 = true then (if bt185.2 = 0 then (if bt185.1 = (Go.bits .and .u64 a2 16777215) then ((cursor_Cursor_Err.f t182 t183 t184).bind fun bt187 => (if bt187.1 = 0 then ((cursor_Cursor_At.f bt187.2.1 bt187.2.2.1 bt187.2.2.2).bind fun bt191 => (some (bt191.1 == (wrap64 ((((((t153 ++ t154) ++ a3) ++ t155) ++ t156).size : Int) - 3))))) else (some false))) else (some false)) else (some false)) else (some false))) = some r := H
                  have A49 := Aside0.mk A490
                  clear A490
                  replace H := Option.bind_eq_some_iff.mp H
                  obtain ⟨⟨t185, t186⟩, A500, H⟩ := H
                  replace H : (if x11_17 = true then (if t186 = 0 then (if t185 = (Go.bits .and .u64 a2 16777215) then ((cursor_Cursor_Err.f t182 t183 t184).bind fun bt187 => (if bt187.1 = 0 then ((cursor_Cursor_At.f bt187.2.1 bt187.2.2.1 bt187.2.2.2).bind fun bt191 => (some (bt191.1 == (wrap64 ((((((t153 ++ t154) ++ a3) ++ t155) ++ t156).size : Int) - 3))))) else (some false))) else (some false)) else (some false)) else (some false)) = some r := H
                  have A50 := Aside0.mk A500
                  clear A500
                  by_cases c51 : x11_17 = true
                  · subst c51
                    have H1 : (if t186 = 0 then (if t185 = (Go.bits .and .u64 a2 16777215) then ((cursor_Cursor_Err.f t182 t183 t184).bind fun bt187 => (if bt187.1 = 0 then ((cursor_Cursor_At.f bt187.2.1 bt187.2.2.1 bt187.2.2.2).bind fun bt191 => (some (bt191.1 == (wrap64 ((((((t153 ++ t154) ++ a3) ++ t155) ++ t156).size : Int) - 3))))) else (some false))) else (some false)) else (some false)) = some r := by rw [if_pos rfl] at H; exact H
                    clear H
                    have H := H1
                    clear H1
                    by_cases c52 : t186 = 0
                    · rw [if_pos c52] at H
                      have c52b0 : (t186 == 0) = true := beq_iff_eq.mpr c52
                      have c52b1 : (t186 != 0) = false := bne_eq_false_iff_eq.mpr c52
                      clear c52
                      by_cases c53 : t185 = (Go.bits .and .u64 a2 16777215)
                      · rw [if_pos c53] at H
                        have c53b0 : (t185 == (Go.bits .and .u64 a2 16777215)) = true := beq_iff_eq.mpr c53
                        have c53b1 : (t185 != (Go.bits .and .u64 a2 16777215)) = false := bne_eq_false_iff_eq.mpr c53
                        clear c53
                        replace H := Option.bind_eq_some_iff.mp H
                        obtain ⟨⟨t187, t188, t189, t190⟩, A540, H⟩ := H
                        replace H : (if t187 = 0 then ((cursor_Cursor_At.f t188 t189 t190).bind fun bt191 => (some (bt191.1 == (wrap64 ((((((t153 ++ t154) ++ a3) ++ t155) ++ t156).size : Int) - 3))))) else (some false)) = some r := H
                        have A54 := Aside0.mk A540
                        clear A540
                        by_cases c55 : t187 = 0
                        · rw [if_pos c55] at H
                          have c55b0 : (t187 == 0) = true := beq_iff_eq.mpr c55
                          have c55b1 : (t187 != 0) = false := bne_eq_false_iff_eq.mpr c55
                          clear c55
                          replace H := Option.bind_eq_some_iff.mp H
                          obtain ⟨⟨t191, t192, t193, t194⟩, A560, H⟩ := H
                          replace H : (some (t191 == (wrap64 ((((((t153 ++ t154) ++ a3) ++ t155) ++ t156).size : Int) - 3)))) = some r := H
                          have A56 := Aside0.mk A560
                          clear A560
                          obtain rfl := Option.some.inj H
                          go_wp2_with (first | ((with_reducible refine gate_callee (f := 21) rfl ?_); refine goesL_ (some 65) rfl rfl Try.func21 (by kernel_rfl) rfl #[.pointer (some ⟨g160, 0, none⟩), .int .i64 3] rfl (by (try simp only [List.map_toArray, List.map_cons, List.map_nil]); first | done | rfl | (simp only [List.length_drop, List.length_take]; rfl)) ?_; (with_reducible refine (cursor_Cursor_Peek.calls g160 x161000_17 x161001_17 x161002_17 3 t181 t182 t183 t184 w _ ?side1 ?side2 A49.out).mono ?_); (case side1 => repeat (first | (with_reducible first | exact HI160.out | apply IsS56.alloc | apply IsS56.drewN | apply IsS56.drew | apply IsS56.set_0 | apply IsS56.set_1 | apply IsS56.set_2) | exact HI160.out)); (case side2 => repeat (first | (with_reducible first | exact HB.out | apply below_alloc | apply pw_below_drewN | apply below_drew1 | refine below_set ?_ (IsS56.ge HI160.out)) | exact HB.out)); rintro e w57 ⟨rfl, hi, hb, hk⟩; refine ⟨_, rfl, ?_⟩; have n0_ := Aside0.mk (hb); have n1_ := Aside0.mk (hi); clear HB; clear HI160; have HB := n0_; have HI160 := n1_; clear n0_ n1_; (try clear hb); (try clear hb2); (try clear hk); (try clear hi)) | ((with_reducible refine gate_callee (f := 8) rfl ?_); refine goesL_ (some 66) rfl rfl Try.func8 (by kernel_rfl) rfl #[.string t181] rfl (by (try simp only [List.map_toArray, List.map_cons, List.map_nil]); first | done | rfl | (simp only [List.length_drop, List.length_take]; rfl)) ?_; (with_reducible refine (cursor_Number.calls kj17 t181 t185 t186 _ A50.out).mono ?_); rintro e w' ⟨rfl, ⟨nd, rfl⟩⟩; refine ⟨_, rfl, ?_⟩) | (go_at_call 22; (with_reducible refine (cursor_Cursor_Err.calls g160 t182 t183 t184 t187 t188 t189 t190 w _ ?side1 ?side2 A54.out).mono ?_); (case side1 => repeat (first | (with_reducible first | exact HI160.out | apply IsS56.alloc | apply IsS56.drewN | apply IsS56.drew | apply IsS56.set_0 | apply IsS56.set_1 | apply IsS56.set_2) | exact HI160.out)); (case side2 => repeat (first | (with_reducible first | exact HB.out | apply below_alloc | apply pw_below_drewN | apply below_drew1 | refine below_set ?_ (IsS56.ge HI160.out)) | exact HB.out)); rintro e w58 ⟨rfl, hi, hb, hk⟩; have n0_ := Aside0.mk (hb); have n1_ := Aside0.mk (hi); clear HB; clear HI160; have HB := n0_; have HI160 := n1_; clear n0_ n1_; (try clear hb); (try clear hb2); (try clear hk); (try clear hi)) | (go_at_call 23; (with_reducible refine (cursor_Cursor_At.calls g160 t188 t189 t190 t191 t192 t193 t194 w _ ?side1 ?side2 A56.out).mono ?_); (case side1 => repeat (first | (with_reducible first | exact HI160.out | apply IsS56.alloc | apply IsS56.drewN | apply IsS56.drew | apply IsS56.set_0 | apply IsS56.set_1 | apply IsS56.set_2) | exact HI160.out)); (case side2 => repeat (first | (with_reducible first | exact HB.out | apply below_alloc | apply pw_below_drewN | apply below_drew1 | refine below_set ?_ (IsS56.ge HI160.out)) | exact HB.out)); rintro e w59 ⟨rfl, hi, hb, hk⟩; have n0_ := Aside0.mk (hb); have n1_ := Aside0.mk (hi); clear HB; clear HI160; have HB := n0_; have HI160 := n1_; clear n0_ n1_; (try clear hb); (try clear hb2); (try clear hk); (try clear hi)))
                          go_ret
                          exact ⟨by first | rfl | (simp [errW_none, errW_some] <;> rfl) | (simp [*, errW_none, errW_some] <;> rfl), by repeat (first | (with_reducible first | exact HB.out | apply below_alloc | apply pw_below_drewN | apply below_drew1 | refine below_set ?_ (IsS56.ge HI160.out)) | exact HB.out)⟩
                        · rw [if_neg c55] at H
                          have c55b0 : (t187 == 0) = false := beq_eq_false_iff_ne.mpr c55
                          have c55b1 : (t187 != 0) = true := bne_iff_ne.mpr c55
                          obtain rfl := Option.some.inj H
                          go_wp2_with (first | ((with_reducible refine gate_callee (f := 21) rfl ?_); refine goesL_ (some 65) rfl rfl Try.func21 (by kernel_rfl) rfl #[.pointer (some ⟨g160, 0, none⟩), .int .i64 3] rfl (by (try simp only [List.map_toArray, List.map_cons, List.map_nil]); first | done | rfl | (simp only [List.length_drop, List.length_take]; rfl)) ?_; (with_reducible refine (cursor_Cursor_Peek.calls g160 x161000_17 x161001_17 x161002_17 3 t181 t182 t183 t184 w _ ?side1 ?side2 A49.out).mono ?_); (case side1 => repeat (first | (with_reducible first | exact HI160.out | apply IsS56.alloc | apply IsS56.drewN | apply IsS56.drew | apply IsS56.set_0 | apply IsS56.set_1 | apply IsS56.set_2) | exact HI160.out)); (case side2 => repeat (first | (with_reducible first | exact HB.out | apply below_alloc | apply pw_below_drewN | apply below_drew1 | refine below_set ?_ (IsS56.ge HI160.out)) | exact HB.out)); rintro e w60 ⟨rfl, hi, hb, hk⟩; refine ⟨_, rfl, ?_⟩; have n0_ := Aside0.mk (hb); have n1_ := Aside0.mk (hi); clear HB; clear HI160; have HB := n0_; have HI160 := n1_; clear n0_ n1_; (try clear hb); (try clear hb2); (try clear hk); (try clear hi)) | ((with_reducible refine gate_callee (f := 8) rfl ?_); refine goesL_ (some 66) rfl rfl Try.func8 (by kernel_rfl) rfl #[.string t181] rfl (by (try simp only [List.map_toArray, List.map_cons, List.map_nil]); first | done | rfl | (simp only [List.length_drop, List.length_take]; rfl)) ?_; (with_reducible refine (cursor_Number.calls kj17 t181 t185 t186 _ A50.out).mono ?_); rintro e w' ⟨rfl, ⟨nd, rfl⟩⟩; refine ⟨_, rfl, ?_⟩) | (go_at_call 22; (with_reducible refine (cursor_Cursor_Err.calls g160 t182 t183 t184 t187 t188 t189 t190 w _ ?side1 ?side2 A54.out).mono ?_); (case side1 => repeat (first | (with_reducible first | exact HI160.out | apply IsS56.alloc | apply IsS56.drewN | apply IsS56.drew | apply IsS56.set_0 | apply IsS56.set_1 | apply IsS56.set_2) | exact HI160.out)); (case side2 => repeat (first | (with_reducible first | exact HB.out | apply below_alloc | apply pw_below_drewN | apply below_drew1 | refine below_set ?_ (IsS56.ge HI160.out)) | exact HB.out)); rintro e w61 ⟨rfl, hi, hb, hk⟩; have n0_ := Aside0.mk (hb); have n1_ := Aside0.mk (hi); clear HB; clear HI160; have HB := n0_; have HI160 := n1_; clear n0_ n1_; (try clear hb); (try clear hb2); (try clear hk); (try clear hi)))
                          go_ret
                          exact ⟨by first | rfl | (simp [errW_none, errW_some] <;> rfl) | (simp [*, errW_none, errW_some] <;> rfl), by repeat (first | (with_reducible first | exact HB.out | apply below_alloc | apply pw_below_drewN | apply below_drew1 | refine below_set ?_ (IsS56.ge HI160.out)) | exact HB.out)⟩
                      · rw [if_neg c53] at H
                        have c53b0 : (t185 == (Go.bits .and .u64 a2 16777215)) = false := beq_eq_false_iff_ne.mpr c53
                        have c53b1 : (t185 != (Go.bits .and .u64 a2 16777215)) = true := bne_iff_ne.mpr c53
                        obtain rfl := Option.some.inj H
                        go_wp2_with (first | ((with_reducible refine gate_callee (f := 21) rfl ?_); refine goesL_ (some 65) rfl rfl Try.func21 (by kernel_rfl) rfl #[.pointer (some ⟨g160, 0, none⟩), .int .i64 3] rfl (by (try simp only [List.map_toArray, List.map_cons, List.map_nil]); first | done | rfl | (simp only [List.length_drop, List.length_take]; rfl)) ?_; (with_reducible refine (cursor_Cursor_Peek.calls g160 x161000_17 x161001_17 x161002_17 3 t181 t182 t183 t184 w _ ?side1 ?side2 A49.out).mono ?_); (case side1 => repeat (first | (with_reducible first | exact HI160.out | apply IsS56.alloc | apply IsS56.drewN | apply IsS56.drew | apply IsS56.set_0 | apply IsS56.set_1 | apply IsS56.set_2) | exact HI160.out)); (case side2 => repeat (first | (with_reducible first | exact HB.out | apply below_alloc | apply pw_below_drewN | apply below_drew1 | refine below_set ?_ (IsS56.ge HI160.out)) | exact HB.out)); rintro e w62 ⟨rfl, hi, hb, hk⟩; refine ⟨_, rfl, ?_⟩; have n0_ := Aside0.mk (hb); have n1_ := Aside0.mk (hi); clear HB; clear HI160; have HB := n0_; have HI160 := n1_; clear n0_ n1_; (try clear hb); (try clear hb2); (try clear hk); (try clear hi)) | ((with_reducible refine gate_callee (f := 8) rfl ?_); refine goesL_ (some 66) rfl rfl Try.func8 (by kernel_rfl) rfl #[.string t181] rfl (by (try simp only [List.map_toArray, List.map_cons, List.map_nil]); first | done | rfl | (simp only [List.length_drop, List.length_take]; rfl)) ?_; (with_reducible refine (cursor_Number.calls kj17 t181 t185 t186 _ A50.out).mono ?_); rintro e w' ⟨rfl, ⟨nd, rfl⟩⟩; refine ⟨_, rfl, ?_⟩))
                        go_ret
                        exact ⟨by first | rfl | (simp [errW_none, errW_some] <;> rfl) | (simp [*, errW_none, errW_some] <;> rfl), by repeat (first | (with_reducible first | exact HB.out | apply below_alloc | apply pw_below_drewN | apply below_drew1 | refine below_set ?_ (IsS56.ge HI160.out)) | exact HB.out)⟩
                    · rw [if_neg c52] at H
                      have c52b0 : (t186 == 0) = false := beq_eq_false_iff_ne.mpr c52
                      have c52b1 : (t186 != 0) = true := bne_iff_ne.mpr c52
                      obtain rfl := Option.some.inj H
                      go_wp2_with (first | ((with_reducible refine gate_callee (f := 21) rfl ?_); refine goesL_ (some 65) rfl rfl Try.func21 (by kernel_rfl) rfl #[.pointer (some ⟨g160, 0, none⟩), .int .i64 3] rfl (by (try simp only [List.map_toArray, List.map_cons, List.map_nil]); first | done | rfl | (simp only [List.length_drop, List.length_take]; rfl)) ?_; (with_reducible refine (cursor_Cursor_Peek.calls g160 x161000_17 x161001_17 x161002_17 3 t181 t182 t183 t184 w _ ?side1 ?side2 A49.out).mono ?_); (case side1 => repeat (first | (with_reducible first | exact HI160.out | apply IsS56.alloc | apply IsS56.drewN | apply IsS56.drew | apply IsS56.set_0 | apply IsS56.set_1 | apply IsS56.set_2) | exact HI160.out)); (case side2 => repeat (first | (with_reducible first | exact HB.out | apply below_alloc | apply pw_below_drewN | apply below_drew1 | refine below_set ?_ (IsS56.ge HI160.out)) | exact HB.out)); rintro e w63 ⟨rfl, hi, hb, hk⟩; refine ⟨_, rfl, ?_⟩; have n0_ := Aside0.mk (hb); have n1_ := Aside0.mk (hi); clear HB; clear HI160; have HB := n0_; have HI160 := n1_; clear n0_ n1_; (try clear hb); (try clear hb2); (try clear hk); (try clear hi)) | ((with_reducible refine gate_callee (f := 8) rfl ?_); refine goesL_ (some 66) rfl rfl Try.func8 (by kernel_rfl) rfl #[.string t181] rfl (by (try simp only [List.map_toArray, List.map_cons, List.map_nil]); first | done | rfl | (simp only [List.length_drop, List.length_take]; rfl)) ?_; (with_reducible refine (cursor_Number.calls kj17 t181 t185 t186 _ A50.out).mono ?_); rintro e w' ⟨rfl, ⟨nd, rfl⟩⟩; refine ⟨_, rfl, ?_⟩))
                      go_ret
                      exact ⟨by first | rfl | (simp [errW_none, errW_some] <;> rfl) | (simp [*, errW_none, errW_some] <;> rfl), by repeat (first | (with_reducible first | exact HB.out | apply below_alloc | apply pw_below_drewN | apply below_drew1 | refine below_set ?_ (IsS56.ge HI160.out)) | exact HB.out)⟩
                  · replace c51 := Bool.eq_false_iff.mpr c51
                    subst c51
                    have H1 : (some false) = some r := by rw [if_neg (show ¬ (false = true) by decide)] at H; exact H
                    clear H
                    have H := H1
                    clear H1
                    obtain rfl := Option.some.inj H
                    go_wp2_with (first | ((with_reducible refine gate_callee (f := 21) rfl ?_); refine goesL_ (some 65) rfl rfl Try.func21 (by kernel_rfl) rfl #[.pointer (some ⟨g160, 0, none⟩), .int .i64 3] rfl (by (try simp only [List.map_toArray, List.map_cons, List.map_nil]); first | done | rfl | (simp only [List.length_drop, List.length_take]; rfl)) ?_; (with_reducible refine (cursor_Cursor_Peek.calls g160 x161000_17 x161001_17 x161002_17 3 t181 t182 t183 t184 w _ ?side1 ?side2 A49.out).mono ?_); (case side1 => repeat (first | (with_reducible first | exact HI160.out | apply IsS56.alloc | apply IsS56.drewN | apply IsS56.drew | apply IsS56.set_0 | apply IsS56.set_1 | apply IsS56.set_2) | exact HI160.out)); (case side2 => repeat (first | (with_reducible first | exact HB.out | apply below_alloc | apply pw_below_drewN | apply below_drew1 | refine below_set ?_ (IsS56.ge HI160.out)) | exact HB.out)); rintro e w64 ⟨rfl, hi, hb, hk⟩; refine ⟨_, rfl, ?_⟩; have n0_ := Aside0.mk (hb); have n1_ := Aside0.mk (hi); clear HB; clear HI160; have HB := n0_; have HI160 := n1_; clear n0_ n1_; (try clear hb); (try clear hb2); (try clear hk); (try clear hi)) | ((with_reducible refine gate_callee (f := 8) rfl ?_); refine goesL_ (some 66) rfl rfl Try.func8 (by kernel_rfl) rfl #[.string t181] rfl (by (try simp only [List.map_toArray, List.map_cons, List.map_nil]); first | done | rfl | (simp only [List.length_drop, List.length_take]; rfl)) ?_; (with_reducible refine (cursor_Number.calls kj17 t181 t185 t186 _ A50.out).mono ?_); rintro e w' ⟨rfl, ⟨nd, rfl⟩⟩; refine ⟨_, rfl, ?_⟩))
                    go_ret
                    exact ⟨by first | rfl | (simp [errW_none, errW_some] <;> rfl) | (simp [*, errW_none, errW_some] <;> rfl), by repeat (first | (with_reducible first | exact HB.out | apply below_alloc | apply pw_below_drewN | apply below_drew1 | refine below_set ?_ (IsS56.ge HI160.out)) | exact HB.out)⟩
            · rw [if_neg c16] at H
              exact absurd H (by simp)
          · rw [if_neg c14] at H
            exact absurd H (by simp)
        · rw [if_neg c12] at H
          exact absurd H (by simp)
      · rw [if_neg c11] at H
        exact absurd H (by simp)
  · replace c6 := Bool.eq_false_iff.mpr c6
    subst c6
    have H1 : (some false) = some r := by rw [if_neg (show ¬ (false = true) by decide)] at H; exact H
    clear H
    have H := H1
    clear H1
    obtain rfl := Option.some.inj H
    go_enter Try.func4, Try.ntmps4
    go_wp2_with (first | ((with_reducible refine gate_callee (f := 7) rfl ?_); refine goesL_ (some 14) rfl rfl Try.func7 (by kernel_rfl) rfl #[] rfl (by (try simp only [List.map_toArray, List.map_cons, List.map_nil]); first | done | rfl | (simp only [List.length_drop, List.length_take]; rfl)) ?_; (with_reducible refine (portmanteaulaw01_awake.calls k  false _ A5.out).mono ?_); rintro e w65 ⟨rfl, hb⟩; refine ⟨_, rfl, ?_⟩; have n0_ := Aside0.mk (below_step (by repeat (first | (with_reducible first | exact HB.out | apply below_alloc | apply pw_below_drewN | apply below_drew1) | exact HB.out)) hb); clear HB; have HB := n0_; clear n0_; (try clear hb); (try clear hb2); (try clear hk); (try clear hi)))
    go_ret
    exact ⟨by first | rfl | (simp [errW_none, errW_some] <;> rfl) | (simp [*, errW_none, errW_some] <;> rfl), by repeat (first | (with_reducible first | exact HB.out | apply below_alloc | apply pw_below_drewN | apply below_drew1) | exact HB.out)⟩

/-- THE ONE PURE STATEMENT of portmanteaulaw01_CursorBack: yours. -/
def portmanteaulaw01_CursorBack.Pure : Prop := ∀ (a0 : Int) (a1 : Int) (a2 : Int) (a3 : ByteArray), (Lit.int .u16 a0).wf = true → (Lit.int .u32 a1).wf = true → (Lit.int .u64 a2).wf = true → a3.size ≤ 140737488351232 → ∃ k, portmanteaulaw01_CursorBack.f k a0 a1 a2 a3 = some true
theorem portmanteaulaw01_CursorBack.walk (P : portmanteaulaw01_CursorBack.Pure) (a0 : Int) (a1 : Int) (a2 : Int) (a3 : ByteArray) (w : World) (w0 : (Lit.int .u16 a0).wf = true) (w1 : (Lit.int .u32 a1).wf = true) (w2 : (Lit.int .u64 a2).wf = true) (w3 : a3.size ≤ 140737488351232) :
    Calls Try.prog 4 #[.int .u16 a0, .int .u32 a1, .int .u64 a2, .string a3] w fun e w' => e = .returned (.bool true) ∧ Below w.heap.size w w' := by
  obtain ⟨k, h⟩ := P a0 a1 a2 a3 w0 w1 w2 w3
  refine (portmanteaulaw01_CursorBack.calls k a0 a1 a2 a3 true w h).mono ?_
  rintro e w' ⟨rfl, hd⟩
  exact ⟨rfl, hd⟩

end Go.Proofs.Ytegdnkhpkealoaa.P
