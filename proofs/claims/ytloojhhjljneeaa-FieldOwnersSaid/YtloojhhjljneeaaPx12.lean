/- Written by a program of this session (wip/print2: a patched copy of a printer), not by print.sh: Lean functions with the answers of the Go functions, and the proofs of that; no condition beside those that stand in each theorem. -/
import Derived.Test.YtloojhhjljneeaaPx0
import Derived.Test.YtloojhhjljneeaaPx11
namespace Go.Proofs.Ytloojhhjljneeaa.P
open Go.RowKit Go.Proofs.YtloojhhjljneeaaW.PrintWords Go.Proofs.YtloojhhjljneeaaW.PrintLast Go.Proofs.YtloojhhjljneeaaW.PrintMore
attribute [local go_sem] max2_int min2_int max_two min_two max_three min_three max_four min_four   -- for this text's walks alone
attribute [local go_sem] Go.Proofs.Ytloojhhjljneeaa.Mx.max_five Go.Proofs.Ytloojhhjljneeaa.Mx.max_six Go.Proofs.Ytloojhhjljneeaa.Mx.max_seven
set_option linter.unusedVariables false
set_option linter.unusedSimpArgs false

/-! ### portmanteauref14_PrintOwner: function 12 -/
def portmanteauref14_PrintOwner.f (k : Nat) (a0 : Int) (a1 : Int) : Option (ByteArray) := (portmanteauref01_Of.f k 1 1).bind fun t182 => ((portmanteauref01_Of.f k 4 1).bind fun t183 => (if t182.size + t183.size ≤ 9223372036854775807 then ((portmanteauref01_Of.f k (IntKind.u64.wrap (a0)) 4).bind fun t184 => (if t182.size + t183.size + t184.size ≤ 9223372036854775807 then ((portmanteauref01_Of.f k 4 1).bind fun t185 => (if t182.size + t183.size + t184.size + t185.size ≤ 9223372036854775807 then ((portmanteauref01_Of.f k (IntKind.u64.wrap (a1)) 4).bind fun t186 => (if t182.size + t183.size + t184.size + t185.size + t186.size ≤ 9223372036854775807 then (some ((((t182 ++ t183) ++ t184) ++ t185) ++ t186)) else (none))) else (none))) else (none))) else (none)))
theorem portmanteauref14_PrintOwner.mono : ∀ a0 a1 k, LeO (portmanteauref14_PrintOwner.f k a0 a1) (portmanteauref14_PrintOwner.f (k + 1) a0 a1) := by
  intro a0 a1 k
  unfold portmanteauref14_PrintOwner.f
  repeat' first
      | (with_reducible exact portmanteauref01_Of.mono _ _ _)
      | (with_reducible exact LeO.refl _)
      | (with_reducible exact LeO.none _)
      | (with_reducible refine LeO.ite ?_ ?_)
      | (with_reducible refine LeO.bind ?_ (fun _ => ?_))
      | exact portmanteauref01_Of.mono _ _ _
      | exact LeO.none _
      | refine LeO.ite ?_ ?_
      | refine LeO.bind ?_ (fun _ => ?_)
set_option maxHeartbeats 8000000 in
set_option maxRecDepth 100000 in
theorem portmanteauref14_PrintOwner.calls (k : Nat) (a0 : Int) (a1 : Int) (r : ByteArray) (w : World) (h : portmanteauref14_PrintOwner.f k a0 a1 = some r) :
    Calls Try.prog 12 #[.int .u32 a0, .int .u32 a1] w fun e w' => e = .returned (.string r) ∧ Below w.heap.size w w' := by
  have HB := Aside0.mk (Below.refl w.heap.size w)
  have H : ((portmanteauref01_Of.f k 1 1).bind fun t182 => ((portmanteauref01_Of.f k 4 1).bind fun t183 => (if t182.size + t183.size ≤ 9223372036854775807 then ((portmanteauref01_Of.f k (IntKind.u64.wrap (a0)) 4).bind fun t184 => (if t182.size + t183.size + t184.size ≤ 9223372036854775807 then ((portmanteauref01_Of.f k 4 1).bind fun t185 => (if t182.size + t183.size + t184.size + t185.size ≤ 9223372036854775807 then ((portmanteauref01_Of.f k (IntKind.u64.wrap (a1)) 4).bind fun t186 => (if t182.size + t183.size + t184.size + t185.size + t186.size ≤ 9223372036854775807 then (some ((((t182 ++ t183) ++ t184) ++ t185) ++ t186)) else (none))) else (none))) else (none))) else (none)))) = some r := h
  clear h
  replace H := Option.bind_eq_some_iff.mp H
  obtain ⟨t182, A30, H⟩ := H
  replace H : ((portmanteauref01_Of.f k 4 1).bind fun t183 => (if t182.size + t183.size ≤ 9223372036854775807 then ((portmanteauref01_Of.f k (IntKind.u64.wrap (a0)) 4).bind fun t184 => (if t182.size + t183.size + t184.size ≤ 9223372036854775807 then ((portmanteauref01_Of.f k 4 1).bind fun t185 => (if t182.size + t183.size + t184.size + t185.size ≤ 9223372036854775807 then ((portmanteauref01_Of.f k (IntKind.u64.wrap (a1)) 4).bind fun t186 => (if t182.size + t183.size + t184.size + t185.size + t186.size ≤ 9223372036854775807 then (some ((((t182 ++ t183) ++ t184) ++ t185) ++ t186)) else (none))) else (none))) else (none))) else (none))) = some r := H
  have A3 := Aside0.mk A30
  clear A30
  replace H := Option.bind_eq_some_iff.mp H
  obtain ⟨t183, A40, H⟩ := H
  replace H : (if t182.size + t183.size ≤ 9223372036854775807 then ((portmanteauref01_Of.f k (IntKind.u64.wrap (a0)) 4).bind fun t184 => (if t182.size + t183.size + t184.size ≤ 9223372036854775807 then ((portmanteauref01_Of.f k 4 1).bind fun t185 => (if t182.size + t183.size + t184.size + t185.size ≤ 9223372036854775807 then ((portmanteauref01_Of.f k (IntKind.u64.wrap (a1)) 4).bind fun t186 => (if t182.size + t183.size + t184.size + t185.size + t186.size ≤ 9223372036854775807 then (some ((((t182 ++ t183) ++ t184) ++ t185) ++ t186)) else (none))) else (none))) else (none))) else (none)) = some r := H
  have A4 := Aside0.mk A40
  clear A40
  by_cases c5 : t182.size + t183.size ≤ 9223372036854775807
  · rw [if_pos c5] at H
    have c5b0 := eq_true c5
    have c5b1 : decide (t182.size + t183.size ≤ 9223372036854775807) = true := decide_eq_true c5
    try have c5b2 : (9223372036854775807 < t182.size + t183.size) = False := eq_false (Nat.not_lt.2 c5)
    replace H := Option.bind_eq_some_iff.mp H
    obtain ⟨t184, A60, H⟩ := H
    replace H : (if t182.size + t183.size + t184.size ≤ 9223372036854775807 then ((portmanteauref01_Of.f k 4 1).bind fun t185 => (if t182.size + t183.size + t184.size + t185.size ≤ 9223372036854775807 then ((portmanteauref01_Of.f k (IntKind.u64.wrap (a1)) 4).bind fun t186 => (if t182.size + t183.size + t184.size + t185.size + t186.size ≤ 9223372036854775807 then (some ((((t182 ++ t183) ++ t184) ++ t185) ++ t186)) else (none))) else (none))) else (none)) = some r := H
    have A6 := Aside0.mk A60
    clear A60
    by_cases c7 : t182.size + t183.size + t184.size ≤ 9223372036854775807
    · rw [if_pos c7] at H
      have c7b0 := eq_true c7
      have c7b1 : decide (t182.size + t183.size + t184.size ≤ 9223372036854775807) = true := decide_eq_true c7
      try have c7b2 : (9223372036854775807 < t182.size + t183.size + t184.size) = False := eq_false (Nat.not_lt.2 c7)
      replace H := Option.bind_eq_some_iff.mp H
      obtain ⟨t185, A80, H⟩ := H
      replace H : (if t182.size + t183.size + t184.size + t185.size ≤ 9223372036854775807 then ((portmanteauref01_Of.f k (IntKind.u64.wrap (a1)) 4).bind fun t186 => (if t182.size + t183.size + t184.size + t185.size + t186.size ≤ 9223372036854775807 then (some ((((t182 ++ t183) ++ t184) ++ t185) ++ t186)) else (none))) else (none)) = some r := H
      have A8 := Aside0.mk A80
      clear A80
      by_cases c9 : t182.size + t183.size + t184.size + t185.size ≤ 9223372036854775807
      · rw [if_pos c9] at H
        have c9b0 := eq_true c9
        have c9b1 : decide (t182.size + t183.size + t184.size + t185.size ≤ 9223372036854775807) = true := decide_eq_true c9
        try have c9b2 : (9223372036854775807 < t182.size + t183.size + t184.size + t185.size) = False := eq_false (Nat.not_lt.2 c9)
        replace H := Option.bind_eq_some_iff.mp H
        obtain ⟨t186, A100, H⟩ := H
        replace H : (if t182.size + t183.size + t184.size + t185.size + t186.size ≤ 9223372036854775807 then (some ((((t182 ++ t183) ++ t184) ++ t185) ++ t186)) else (none)) = some r := H
        have A10 := Aside0.mk A100
        clear A100
        by_cases c11 : t182.size + t183.size + t184.size + t185.size + t186.size ≤ 9223372036854775807
        · rw [if_pos c11] at H
          have c11b0 := eq_true c11
          have c11b1 : decide (t182.size + t183.size + t184.size + t185.size + t186.size ≤ 9223372036854775807) = true := decide_eq_true c11
          try have c11b2 : (9223372036854775807 < t182.size + t183.size + t184.size + t185.size + t186.size) = False := eq_false (Nat.not_lt.2 c11)
          obtain rfl := Option.some.inj H
          go_enter Try.func12, Try.ntmps12
          go_wp2_with (first | ((with_reducible refine gate_callee (f := 30) rfl ?_); refine goesL_ (some 5) rfl rfl Try.func30 (by kernel_rfl) rfl #[.int .u64 1, .int .i64 1] rfl (by (try simp only [List.map_toArray, List.map_cons, List.map_nil]); first | done | rfl | (simp only [List.length_drop, List.length_take]; rfl)) ?_; (with_reducible refine (portmanteauref01_Of.calls k 1 1 t182 _ A3.out).mono ?_); rintro e w12 ⟨rfl, hb⟩; refine ⟨_, rfl, ?_⟩; have n0_ := Aside0.mk (below_step (by repeat (first | (with_reducible first | exact HB.out | apply below_alloc | apply pw_below_drewN | apply below_drew1) | exact HB.out)) hb); clear HB; have HB := n0_; clear n0_; (try clear hb); (try clear hb2); (try clear hk); (try clear hi)) | ((with_reducible refine gate_callee (f := 30) rfl ?_); refine goesL_ (some 6) rfl rfl Try.func30 (by kernel_rfl) rfl #[.int .u64 4, .int .i64 1] rfl (by (try simp only [List.map_toArray, List.map_cons, List.map_nil]); first | done | rfl | (simp only [List.length_drop, List.length_take]; rfl)) ?_; (with_reducible refine (portmanteauref01_Of.calls k 4 1 t183 _ A4.out).mono ?_); rintro e w13 ⟨rfl, hb⟩; refine ⟨_, rfl, ?_⟩; have n0_ := Aside0.mk (below_step (by repeat (first | (with_reducible first | exact HB.out | apply below_alloc | apply pw_below_drewN | apply below_drew1) | exact HB.out)) hb); clear HB; have HB := n0_; clear n0_; (try clear hb); (try clear hb2); (try clear hk); (try clear hi)) | ((with_reducible refine gate_callee (f := 30) rfl ?_); refine goesL_ (some 10) rfl rfl Try.func30 (by kernel_rfl) rfl #[.int .u64 (IntKind.u64.wrap (a0)), .int .i64 4] rfl (by (try simp only [List.map_toArray, List.map_cons, List.map_nil]); first | done | rfl | (simp only [List.length_drop, List.length_take]; rfl)) ?_; (with_reducible refine (portmanteauref01_Of.calls k (IntKind.u64.wrap (a0)) 4 t184 _ A6.out).mono ?_); rintro e w14 ⟨rfl, hb⟩; refine ⟨_, rfl, ?_⟩; have n0_ := Aside0.mk (below_step (by repeat (first | (with_reducible first | exact HB.out | apply below_alloc | apply pw_below_drewN | apply below_drew1) | exact HB.out)) hb); clear HB; have HB := n0_; clear n0_; (try clear hb); (try clear hb2); (try clear hk); (try clear hi)) | ((with_reducible refine gate_callee (f := 30) rfl ?_); refine goesL_ (some 12) rfl rfl Try.func30 (by kernel_rfl) rfl #[.int .u64 4, .int .i64 1] rfl (by (try simp only [List.map_toArray, List.map_cons, List.map_nil]); first | done | rfl | (simp only [List.length_drop, List.length_take]; rfl)) ?_; (with_reducible refine (portmanteauref01_Of.calls k 4 1 t185 _ A8.out).mono ?_); rintro e w15 ⟨rfl, hb⟩; refine ⟨_, rfl, ?_⟩; have n0_ := Aside0.mk (below_step (by repeat (first | (with_reducible first | exact HB.out | apply below_alloc | apply pw_below_drewN | apply below_drew1) | exact HB.out)) hb); clear HB; have HB := n0_; clear n0_; (try clear hb); (try clear hb2); (try clear hk); (try clear hi)) | ((with_reducible refine gate_callee (f := 30) rfl ?_); refine goesL_ (some 16) rfl rfl Try.func30 (by kernel_rfl) rfl #[.int .u64 (IntKind.u64.wrap (a1)), .int .i64 4] rfl (by (try simp only [List.map_toArray, List.map_cons, List.map_nil]); first | done | rfl | (simp only [List.length_drop, List.length_take]; rfl)) ?_; (with_reducible refine (portmanteauref01_Of.calls k (IntKind.u64.wrap (a1)) 4 t186 _ A10.out).mono ?_); rintro e w16 ⟨rfl, hb⟩; refine ⟨_, rfl, ?_⟩; have n0_ := Aside0.mk (below_step (by repeat (first | (with_reducible first | exact HB.out | apply below_alloc | apply pw_below_drewN | apply below_drew1) | exact HB.out)) hb); clear HB; have HB := n0_; clear n0_; (try clear hb); (try clear hb2); (try clear hk); (try clear hi)))
          go_ret
          exact ⟨by first | rfl | (simp [errW_none, errW_some] <;> rfl) | (simp [*, errW_none, errW_some] <;> rfl), by repeat (first | (with_reducible first | exact HB.out | apply below_alloc | apply pw_below_drewN | apply below_drew1) | exact HB.out)⟩
        · rw [if_neg c11] at H
          exact absurd H (by simp)
      · rw [if_neg c9] at H
        exact absurd H (by simp)
    · rw [if_neg c7] at H
      exact absurd H (by simp)
  · rw [if_neg c5] at H
    exact absurd H (by simp)

end Go.Proofs.Ytloojhhjljneeaa.P
