/- Written by a program of this session (wip/print2: a patched copy of a printer), not by print.sh: Lean functions with the answers of the Go functions, and the proofs of that; no condition beside those that stand in each theorem. -/
import Derived.Test.YtloojhhjljneeaaPx0
import Derived.Test.YtloojhhjljneeaaPx1
namespace Go.Proofs.Ytloojhhjljneeaa.P
open Go.RowKit Go.Proofs.YtloojhhjljneeaaW.PrintWords Go.Proofs.YtloojhhjljneeaaW.PrintLast Go.Proofs.YtloojhhjljneeaaW.PrintMore
attribute [local go_sem] max2_int min2_int max_two min_two max_three min_three max_four min_four   -- for this text's walks alone
attribute [local go_sem] Go.Proofs.Ytloojhhjljneeaa.Mx.max_five Go.Proofs.Ytloojhhjljneeaa.Mx.max_six Go.Proofs.Ytloojhhjljneeaa.Mx.max_seven
set_option linter.unusedVariables false
set_option linter.unusedSimpArgs false

/-! ### cursor_Four: function 29 -/
def cursor_Four.f (k : Nat) (a0 : Int) : Option (ByteArray) := (cursor_Of.f k (IntKind.u64.wrap (a0)) 4).bind fun t105 => (some t105)
theorem cursor_Four.mono : ∀ a0 k, LeO (cursor_Four.f k a0) (cursor_Four.f (k + 1) a0) := by
  intro a0 k
  unfold cursor_Four.f
  repeat' first
      | (with_reducible exact cursor_Of.mono _ _ _)
      | (with_reducible exact LeO.refl _)
      | (with_reducible exact LeO.none _)
      | (with_reducible refine LeO.ite ?_ ?_)
      | (with_reducible refine LeO.bind ?_ (fun _ => ?_))
      | exact cursor_Of.mono _ _ _
      | exact LeO.none _
      | refine LeO.ite ?_ ?_
      | refine LeO.bind ?_ (fun _ => ?_)
set_option maxHeartbeats 8000000 in
set_option maxRecDepth 100000 in
theorem cursor_Four.calls (k : Nat) (a0 : Int) (r : ByteArray) (w : World) (h : cursor_Four.f k a0 = some r) :
    Calls Try.prog 29 #[.int .u32 a0] w fun e w' => e = .returned (.string r) ∧ Below w.heap.size w w' := by
  have HB := Aside0.mk (Below.refl w.heap.size w)
  have H : ((cursor_Of.f k (IntKind.u64.wrap (a0)) 4).bind fun t105 => (some t105)) = some r := h
  clear h
  replace H := Option.bind_eq_some_iff.mp H
  obtain ⟨t105, A20, H⟩ := H
  replace H : (some t105) = some r := H
  have A2 := Aside0.mk A20
  clear A20
  obtain rfl := Option.some.inj H
  go_enter Try.func29, Try.ntmps29
  go_wp2_with (first | ((with_reducible refine gate_callee (f := 36) rfl ?_); refine goesL_ (some 5) rfl rfl Try.func36 (by kernel_rfl) rfl #[.int .u64 (IntKind.u64.wrap (a0)), .int .i64 4] rfl (by (try simp only [List.map_toArray, List.map_cons, List.map_nil]); first | done | rfl | (simp only [List.length_drop, List.length_take]; rfl)) ?_; (with_reducible refine (cursor_Of.calls k (IntKind.u64.wrap (a0)) 4 t105 _ A2.out).mono ?_); rintro e w3 ⟨rfl, hb⟩; refine ⟨_, rfl, ?_⟩; have n0_ := Aside0.mk (below_step (by repeat (first | (with_reducible first | exact HB.out | apply below_alloc | apply pw_below_drewN | apply below_drew1) | exact HB.out)) hb); clear HB; have HB := n0_; clear n0_; (try clear hb); (try clear hb2); (try clear hk); (try clear hi)))
  go_ret
  exact ⟨by first | rfl | (simp [errW_none, errW_some] <;> rfl) | (simp [*, errW_none, errW_some] <;> rfl), by repeat (first | (with_reducible first | exact HB.out | apply below_alloc | apply pw_below_drewN | apply below_drew1) | exact HB.out)⟩

/-! ### field_PrintOwner: function 11 -/
def field_PrintOwner.f (k : Nat) (a0 : Int) (a1 : Int) : Option (ByteArray) := (cursor_Four.f k a0).bind fun t106 => (if 2 + t106.size ≤ 9223372036854775807 then (if 2 + t106.size + 1 ≤ 9223372036854775807 then ((cursor_Four.f k a1).bind fun t107 => (if 2 + t106.size + 1 + t107.size ≤ 9223372036854775807 then (some ((((⟨#[1, 4]⟩ : ByteArray) ++ t106) ++ (⟨#[4]⟩ : ByteArray)) ++ t107)) else (none))) else (none)) else (none))
theorem field_PrintOwner.mono : ∀ a0 a1 k, LeO (field_PrintOwner.f k a0 a1) (field_PrintOwner.f (k + 1) a0 a1) := by
  intro a0 a1 k
  unfold field_PrintOwner.f
  repeat' first
      | (with_reducible exact cursor_Four.mono _ _)
      | (with_reducible exact LeO.refl _)
      | (with_reducible exact LeO.none _)
      | (with_reducible refine LeO.ite ?_ ?_)
      | (with_reducible refine LeO.bind ?_ (fun _ => ?_))
      | exact cursor_Four.mono _ _
      | exact LeO.none _
      | refine LeO.ite ?_ ?_
      | refine LeO.bind ?_ (fun _ => ?_)
set_option maxHeartbeats 8000000 in
set_option maxRecDepth 100000 in
theorem field_PrintOwner.calls (k : Nat) (a0 : Int) (a1 : Int) (r : ByteArray) (w : World) (h : field_PrintOwner.f k a0 a1 = some r) :
    Calls Try.prog 11 #[.int .u32 a0, .int .u32 a1] w fun e w' => e = .returned (.string r) ∧ Below w.heap.size w w' := by
  have HB := Aside0.mk (Below.refl w.heap.size w)
  have H : ((cursor_Four.f k a0).bind fun t106 => (if 2 + t106.size ≤ 9223372036854775807 then (if 2 + t106.size + 1 ≤ 9223372036854775807 then ((cursor_Four.f k a1).bind fun t107 => (if 2 + t106.size + 1 + t107.size ≤ 9223372036854775807 then (some ((((⟨#[1, 4]⟩ : ByteArray) ++ t106) ++ (⟨#[4]⟩ : ByteArray)) ++ t107)) else (none))) else (none)) else (none))) = some r := h
  clear h
  replace H := Option.bind_eq_some_iff.mp H
  obtain ⟨t106, A30, H⟩ := H
  replace H : (if 2 + t106.size ≤ 9223372036854775807 then (if 2 + t106.size + 1 ≤ 9223372036854775807 then ((cursor_Four.f k a1).bind fun t107 => (if 2 + t106.size + 1 + t107.size ≤ 9223372036854775807 then (some ((((⟨#[1, 4]⟩ : ByteArray) ++ t106) ++ (⟨#[4]⟩ : ByteArray)) ++ t107)) else (none))) else (none)) else (none)) = some r := H
  have A3 := Aside0.mk A30
  clear A30
  by_cases c4 : 2 + t106.size ≤ 9223372036854775807
  · rw [if_pos c4] at H
    have c4b0 := eq_true c4
    have c4b1 : decide (2 + t106.size ≤ 9223372036854775807) = true := decide_eq_true c4
    try have c4b2 : (9223372036854775807 < 2 + t106.size) = False := eq_false (Nat.not_lt.2 c4)
    by_cases c5 : 2 + t106.size + 1 ≤ 9223372036854775807
    · rw [if_pos c5] at H
      have c5b0 := eq_true c5
      have c5b1 : decide (2 + t106.size + 1 ≤ 9223372036854775807) = true := decide_eq_true c5
      try have c5b2 : (9223372036854775807 < 2 + t106.size + 1) = False := eq_false (Nat.not_lt.2 c5)
      replace H := Option.bind_eq_some_iff.mp H
      obtain ⟨t107, A60, H⟩ := H
      replace H : (if 2 + t106.size + 1 + t107.size ≤ 9223372036854775807 then (some ((((⟨#[1, 4]⟩ : ByteArray) ++ t106) ++ (⟨#[4]⟩ : ByteArray)) ++ t107)) else (none)) = some r := H
      have A6 := Aside0.mk A60
      clear A60
      by_cases c7 : 2 + t106.size + 1 + t107.size ≤ 9223372036854775807
      · rw [if_pos c7] at H
        have c7b0 := eq_true c7
        have c7b1 : decide (2 + t106.size + 1 + t107.size ≤ 9223372036854775807) = true := decide_eq_true c7
        try have c7b2 : (9223372036854775807 < 2 + t106.size + 1 + t107.size) = False := eq_false (Nat.not_lt.2 c7)
        obtain rfl := Option.some.inj H
        go_enter Try.func11, Try.ntmps11
        go_wp2_with (first | ((with_reducible refine gate_callee (f := 29) rfl ?_); refine goesL_ (some 6) rfl rfl Try.func29 (by kernel_rfl) rfl #[.int .u32 a0] rfl (by (try simp only [List.map_toArray, List.map_cons, List.map_nil]); first | done | rfl | (simp only [List.length_drop, List.length_take]; rfl)) ?_; (with_reducible refine (cursor_Four.calls k a0 t106 _ A3.out).mono ?_); rintro e w8 ⟨rfl, hb⟩; refine ⟨_, rfl, ?_⟩; have n0_ := Aside0.mk (below_step (by repeat (first | (with_reducible first | exact HB.out | apply below_alloc | apply pw_below_drewN | apply below_drew1) | exact HB.out)) hb); clear HB; have HB := n0_; clear n0_; (try clear hb); (try clear hb2); (try clear hk); (try clear hi)) | ((with_reducible refine gate_callee (f := 29) rfl ?_); refine goesL_ (some 10) rfl rfl Try.func29 (by kernel_rfl) rfl #[.int .u32 a1] rfl (by (try simp only [List.map_toArray, List.map_cons, List.map_nil]); first | done | rfl | (simp only [List.length_drop, List.length_take]; rfl)) ?_; (with_reducible refine (cursor_Four.calls k a1 t107 _ A6.out).mono ?_); rintro e w9 ⟨rfl, hb⟩; refine ⟨_, rfl, ?_⟩; have n0_ := Aside0.mk (below_step (by repeat (first | (with_reducible first | exact HB.out | apply below_alloc | apply pw_below_drewN | apply below_drew1) | exact HB.out)) hb); clear HB; have HB := n0_; clear n0_; (try clear hb); (try clear hb2); (try clear hk); (try clear hi)))
        go_ret
        exact ⟨by first | rfl | (simp [errW_none, errW_some] <;> rfl) | (simp [*, errW_none, errW_some] <;> rfl), by repeat (first | (with_reducible first | exact HB.out | apply below_alloc | apply pw_below_drewN | apply below_drew1) | exact HB.out)⟩
      · rw [if_neg c7] at H
        exact absurd H (by simp)
    · rw [if_neg c5] at H
      exact absurd H (by simp)
  · rw [if_neg c4] at H
    exact absurd H (by simp)

/-! ### portmanteaulaw14_awake: function 6 -/
def portmanteaulaw14_awake.f (k : Nat)  : Option (Bool) := (field_PrintOwner.f k 1 2).bind fun t108 => (some (t108.toList == ([1, 4, 1, 0, 0, 0, 4, 2, 0, 0, 0] : List UInt8)))
theorem portmanteaulaw14_awake.mono : ∀ k, LeO (portmanteaulaw14_awake.f k ) (portmanteaulaw14_awake.f (k + 1) ) := by
  intro  k
  unfold portmanteaulaw14_awake.f
  repeat' first
      | (with_reducible exact field_PrintOwner.mono _ _ _)
      | (with_reducible exact LeO.refl _)
      | (with_reducible exact LeO.none _)
      | (with_reducible refine LeO.ite ?_ ?_)
      | (with_reducible refine LeO.bind ?_ (fun _ => ?_))
      | exact field_PrintOwner.mono _ _ _
      | exact LeO.none _
      | refine LeO.ite ?_ ?_
      | refine LeO.bind ?_ (fun _ => ?_)
set_option maxHeartbeats 8000000 in
set_option maxRecDepth 100000 in
theorem portmanteaulaw14_awake.calls (k : Nat)  (r : Bool) (w : World) (h : portmanteaulaw14_awake.f k  = some r) :
    Calls Try.prog 6 #[] w fun e w' => e = .returned (.bool r) ∧ Below w.heap.size w w' := by
  have HB := Aside0.mk (Below.refl w.heap.size w)
  have H : ((field_PrintOwner.f k 1 2).bind fun t108 => (some (t108.toList == ([1, 4, 1, 0, 0, 0, 4, 2, 0, 0, 0] : List UInt8)))) = some r := h
  clear h
  replace H := Option.bind_eq_some_iff.mp H
  obtain ⟨t108, A10, H⟩ := H
  replace H : (some (t108.toList == ([1, 4, 1, 0, 0, 0, 4, 2, 0, 0, 0] : List UInt8))) = some r := H
  have A1 := Aside0.mk A10
  clear A10
  obtain rfl := Option.some.inj H
  go_enter Try.func6, Try.ntmps6
  go_wp2_with (first | ((with_reducible refine gate_callee (f := 11) rfl ?_); refine goesL_ (some 1) rfl rfl Try.func11 (by kernel_rfl) rfl #[.int .u32 1, .int .u32 2] rfl (by (try simp only [List.map_toArray, List.map_cons, List.map_nil]); first | done | rfl | (simp only [List.length_drop, List.length_take]; rfl)) ?_; (with_reducible refine (field_PrintOwner.calls k 1 2 t108 _ A1.out).mono ?_); rintro e w2 ⟨rfl, hb⟩; refine ⟨_, rfl, ?_⟩; have n0_ := Aside0.mk (below_step (by repeat (first | (with_reducible first | exact HB.out | apply below_alloc | apply pw_below_drewN | apply below_drew1) | exact HB.out)) hb); clear HB; have HB := n0_; clear n0_; (try clear hb); (try clear hb2); (try clear hk); (try clear hi)))
  go_ret
  exact ⟨by first | rfl | (simp [errW_none, errW_some] <;> rfl) | (simp [*, errW_none, errW_some] <;> rfl), by repeat (first | (with_reducible first | exact HB.out | apply below_alloc | apply pw_below_drewN | apply below_drew1) | exact HB.out)⟩

end Go.Proofs.Ytloojhhjljneeaa.P
