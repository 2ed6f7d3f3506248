/- Written by a program of this session (wip/print2: a patched copy of a printer), not by print.sh: Lean functions with the answers of the Go functions, and the proofs of that; no condition beside those that stand in each theorem. -/
import Derived.Test.YtgpmhdefpbmhjaaPx0
import Derived.Test.YtgpmhdefpbmhjaaGiveawake7
import Derived.Test.YtgpmhdefpbmhjaaGivefind
namespace Go.Proofs.Ytgpmhdefpbmhjaa.P
open Go.RowKit Go.Proofs.YtgpmhdefpbmhjaaW.PrintWords Go.Proofs.YtgpmhdefpbmhjaaW.PrintLast Go.Proofs.YtgpmhdefpbmhjaaW.PrintMore
attribute [local go_sem] max2_int min2_int max_two min_two max_three min_three max_four min_four   -- for this text's walks alone
set_option linter.unusedVariables false
set_option linter.unusedSimpArgs false

/-! ### portmanteaulaw07_MatchCopies: function 6 -/
def portmanteaulaw07_MatchCopies.l0 : Nat → Int → ByteArray → Int → Int → List (S25) → Int → Int → Option (Bool)
  | 0, _, _, _, _, _, _, _ => none
  | k + 1, x11, x12, x14, x15, x46, x47, x48 => if x48 < x47 then (if 0 ≤ x48 then (if x48 < (x46.length : Int) then (if ((rd_T25 x46 x48).f1) > 0 then (portmanteaulaw07_MatchCopies.l0 k x11 x12 x14 (wrap64 (x15 + 1)) x46 x47 (wrap64 (x48 + 1))) else (portmanteaulaw07_MatchCopies.l0 k x11 x12 x14 x15 x46 x47 (wrap64 (x48 + 1)))) else (none)) else (none)) else (if x12.size + x12.size ≤ 9223372036854775807 then (if x12.size + x12.size + x12.size ≤ 9223372036854775807 then (if x12.size + x12.size + x12.size + x12.size ≤ 9223372036854775807 then (if x12.size + x12.size + x12.size + x12.size + x12.size ≤ 9223372036854775807 then (if x12.size + x12.size + x12.size + x12.size + x12.size + x12.size ≤ 9223372036854775807 then (if x12.size + x12.size + x12.size + x12.size + x12.size + x12.size + x12.size ≤ 9223372036854775807 then (if x12.size + x12.size + x12.size + x12.size + x12.size + x12.size + x12.size + x12.size ≤ 9223372036854775807 then (if x12.size + x12.size + x12.size + x12.size + x12.size + x12.size + x12.size + x12.size + x12.size ≤ 9223372036854775807 then ((match_Find.f ((((((((x12 ++ x12) ++ x12) ++ x12) ++ x12) ++ x12) ++ x12) ++ x12) ++ x12) x11).bind fun bt170 => (if x14 = 0 then (if x15 > 0 then (if bt170.2 = 0 then (some (decide ((bt170.1.length : Int) ≤ 8))) else (some false)) else (some false)) else (some false))) else (none)) else (none)) else (none)) else (none)) else (none)) else (none)) else (none)) else (none))
def portmanteaulaw07_MatchCopies.f (k : Nat) (a0 : Int) (a1 : Int) (a2 : Int) (a3 : ByteArray) (a4 : Int) : Option (Bool) := (portmanteaulaw07_awake.f).bind fun t160 => (if t160 = true then (if (a3.size : Int) > 2000 then (some true) else ((some (([a0, a1, a2] : List Int) : List Int)).bind fun y161 => (if (strOfNums y161).size + (strOfNums y161).size ≤ 9223372036854775807 then (if (strOfNums y161).size + (strOfNums y161).size + (strOfNums y161).size ≤ 9223372036854775807 then (if (strOfNums y161).size + (strOfNums y161).size + (strOfNums y161).size + a3.size ≤ 9223372036854775807 then ((match_Find.f ((((strOfNums y161) ++ (strOfNums y161)) ++ (strOfNums y161)) ++ a3) (wrap64 (1 + (wrap64 (Int.tmod a4 9))))).bind fun bt164 => (portmanteaulaw07_MatchCopies.l0 k (wrap64 (1 + (wrap64 (Int.tmod a4 9)))) (strOfNums y161) bt164.2 0 bt164.1 (bt164.1.length : Int) 0)) else (none)) else (none)) else (none)))) else (some false))
theorem portmanteaulaw07_MatchCopies.mono_l : ∀ k, (∀ y0 y1 y2 y3 y4 y5 y6, LeO (portmanteaulaw07_MatchCopies.l0 k y0 y1 y2 y3 y4 y5 y6) (portmanteaulaw07_MatchCopies.l0 (k + 1) y0 y1 y2 y3 y4 y5 y6))
  | 0 => fun _ _ _ _ _ _ _ r h => by simp [portmanteaulaw07_MatchCopies.l0] at h
  | k + 1 => by
    have ih0 := portmanteaulaw07_MatchCopies.mono_l k
    · intro y0 y1 y2 y3 y4 y5 y6
      unfold portmanteaulaw07_MatchCopies.l0
      repeat' first
      | (with_reducible exact ih0 _ _ _ _ _ _ _)
      | (with_reducible exact LeO.refl _)
      | (with_reducible exact LeO.none _)
      | (with_reducible refine LeO.ite ?_ ?_)
      | (with_reducible refine LeO.bind ?_ (fun _ => ?_))
      | exact ih0 _ _ _ _ _ _ _
      | exact LeO.none _
      | refine LeO.ite ?_ ?_
      | refine LeO.bind ?_ (fun _ => ?_)
theorem portmanteaulaw07_MatchCopies.mono : ∀ a0 a1 a2 a3 a4 k, LeO (portmanteaulaw07_MatchCopies.f k a0 a1 a2 a3 a4) (portmanteaulaw07_MatchCopies.f (k + 1) a0 a1 a2 a3 a4) := by
  intro a0 a1 a2 a3 a4 k
  have ih0 := portmanteaulaw07_MatchCopies.mono_l k
  unfold portmanteaulaw07_MatchCopies.f
  repeat' first
      | (with_reducible exact ih0 _ _ _ _ _ _ _)
      | (with_reducible exact LeO.refl _)
      | (with_reducible exact LeO.none _)
      | (with_reducible refine LeO.ite ?_ ?_)
      | (with_reducible refine LeO.bind ?_ (fun _ => ?_))
      | exact ih0 _ _ _ _ _ _ _
      | exact LeO.none _
      | refine LeO.ite ?_ ?_
      | refine LeO.bind ?_ (fun _ => ?_)
set_option maxHeartbeats 8000000 in
set_option maxRecDepth 100000 in
theorem portmanteaulaw07_MatchCopies.calls (k : Nat) (a0 : Int) (a1 : Int) (a2 : Int) (a3 : ByteArray) (a4 : Int) (r : Bool) (w : World) (h : portmanteaulaw07_MatchCopies.f k a0 a1 a2 a3 a4 = some r) :
    Calls Try.prog 6 #[.int .u8 a0, .int .u8 a1, .int .u8 a2, .string a3, .int .u8 a4] w fun e w' => e = .returned (.bool r) ∧ Below w.heap.size w w' := by
  have hu25 := Try.underlying25
  have HB := Aside0.mk (Below.refl w.heap.size w)
  have H : ((portmanteaulaw07_awake.f).bind fun t160 => (if t160 = true then (if (a3.size : Int) > 2000 then (some true) else ((some (([a0, a1, a2] : List Int) : List Int)).bind fun y161 => (if (strOfNums y161).size + (strOfNums y161).size ≤ 9223372036854775807 then (if (strOfNums y161).size + (strOfNums y161).size + (strOfNums y161).size ≤ 9223372036854775807 then (if (strOfNums y161).size + (strOfNums y161).size + (strOfNums y161).size + a3.size ≤ 9223372036854775807 then ((match_Find.f ((((strOfNums y161) ++ (strOfNums y161)) ++ (strOfNums y161)) ++ a3) (wrap64 (1 + (wrap64 (Int.tmod a4 9))))).bind fun bt164 => (portmanteaulaw07_MatchCopies.l0 k (wrap64 (1 + (wrap64 (Int.tmod a4 9)))) (strOfNums y161) bt164.2 0 bt164.1 (bt164.1.length : Int) 0)) else (none)) else (none)) else (none)))) else (some false))) = some r := h
  clear h
  replace H := Option.bind_eq_some_iff.mp H
  obtain ⟨t160, A60, H⟩ := H
  replace H : (if t160 = true then (if (a3.size : Int) > 2000 then (some true) else ((some (([a0, a1, a2] : List Int) : List Int)).bind fun y161 => (if (strOfNums y161).size + (strOfNums y161).size ≤ 9223372036854775807 then (if (strOfNums y161).size + (strOfNums y161).size + (strOfNums y161).size ≤ 9223372036854775807 then (if (strOfNums y161).size + (strOfNums y161).size + (strOfNums y161).size + a3.size ≤ 9223372036854775807 then ((match_Find.f ((((strOfNums y161) ++ (strOfNums y161)) ++ (strOfNums y161)) ++ a3) (wrap64 (1 + (wrap64 (Int.tmod a4 9))))).bind fun bt164 => (portmanteaulaw07_MatchCopies.l0 k (wrap64 (1 + (wrap64 (Int.tmod a4 9)))) (strOfNums y161) bt164.2 0 bt164.1 (bt164.1.length : Int) 0)) else (none)) else (none)) else (none)))) else (some false)) = some r := H
  have A6 := Aside0.mk A60
  clear A60
  by_cases c7 : t160 = true
  · subst c7
    have H1 : (if (a3.size : Int) > 2000 then (some true) else ((some (([a0, a1, a2] : List Int) : List Int)).bind fun y161 => (if (strOfNums y161).size + (strOfNums y161).size ≤ 9223372036854775807 then (if (strOfNums y161).size + (strOfNums y161).size + (strOfNums y161).size ≤ 9223372036854775807 then (if (strOfNums y161).size + (strOfNums y161).size + (strOfNums y161).size + a3.size ≤ 9223372036854775807 then ((match_Find.f ((((strOfNums y161) ++ (strOfNums y161)) ++ (strOfNums y161)) ++ a3) (wrap64 (1 + (wrap64 (Int.tmod a4 9))))).bind fun bt164 => (portmanteaulaw07_MatchCopies.l0 k (wrap64 (1 + (wrap64 (Int.tmod a4 9)))) (strOfNums y161) bt164.2 0 bt164.1 (bt164.1.length : Int) 0)) else (none)) else (none)) else (none)))) = some r := by rw [if_pos rfl] at H; exact H
    clear H
    have H := H1
    clear H1
    by_cases c8 : (a3.size : Int) > 2000
    · rw [if_pos c8] at H
      have c8b0 : decide (2000 < (a3.size : Int)) = true := decide_eq_true c8
      have c8b1 : decide (2000 < a3.size) = true := decide_eq_true (by omega)
      clear c8
      obtain rfl := Option.some.inj H
      go_enter Try.func6, Try.ntmps6
      go_wp2_with (first | ((with_reducible refine gate_callee (f := 9) rfl ?_); refine goesL_ (some 20) rfl rfl Try.func9 (by kernel_rfl) rfl #[] rfl (by (try simp only [List.map_toArray, List.map_cons, List.map_nil]); first | done | rfl | (simp only [List.length_drop, List.length_take]; rfl)) ?_; (with_reducible refine (portmanteaulaw07_awake.calls  true _ A6.out).mono ?_); rintro e w9 ⟨rfl, hb⟩; refine ⟨_, rfl, ?_⟩; have n0_ := Aside0.mk (below_step (by repeat (first | (with_reducible first | exact HB.out | apply below_alloc | apply pw_below_drewN | apply below_drew1) | exact HB.out)) hb); clear HB; have HB := n0_; clear n0_; (try clear hb); (try clear hb2); (try clear hk); (try clear hi)))
      go_ret
      exact ⟨by first | rfl | (simp [errW_none, errW_some] <;> rfl) | (simp [*, errW_none, errW_some] <;> rfl), by repeat (first | (with_reducible first | exact HB.out | apply below_alloc | apply pw_below_drewN | apply below_drew1) | exact HB.out)⟩
    · rw [if_neg c8] at H
      have c8b0 : decide (2000 < (a3.size : Int)) = false := decide_eq_false c8
      have c8b1 : decide (2000 < a3.size) = false := decide_eq_false (by omega)
      clear c8
      obtain ⟨y161, hy161⟩ : ∃ y_ : List Int, y_ = (([a0, a1, a2] : List Int)) := ⟨_, rfl⟩
      replace H : (if (strOfNums y161).size + (strOfNums y161).size ≤ 9223372036854775807 then (if (strOfNums y161).size + (strOfNums y161).size + (strOfNums y161).size ≤ 9223372036854775807 then (if (strOfNums y161).size + (strOfNums y161).size + (strOfNums y161).size + a3.size ≤ 9223372036854775807 then ((match_Find.f ((((strOfNums y161) ++ (strOfNums y161)) ++ (strOfNums y161)) ++ a3) (wrap64 (1 + (wrap64 (Int.tmod a4 9))))).bind fun bt164 => (portmanteaulaw07_MatchCopies.l0 k (wrap64 (1 + (wrap64 (Int.tmod a4 9)))) (strOfNums y161) bt164.2 0 bt164.1 (bt164.1.length : Int) 0)) else (none)) else (none)) else (none)) = some r := by first | (rw [hy161]; with_reducible exact H) | (have H2_ := (Option.bind_some _ _).symm.trans H; rw [hy161]; with_reducible exact H2_) | (have H2_ := (Option.bind_some _ _).symm.trans H; with_reducible exact H2_) | with_reducible exact H | (rw [hy161]; exact H) | exact H
      have Ny161 := Aside0.mk hy161
      clear hy161
      by_cases c10 : (strOfNums y161).size + (strOfNums y161).size ≤ 9223372036854775807
      · rw [if_pos c10] at H
        have c10b0 := eq_true c10
        have c10b1 : decide ((strOfNums y161).size + (strOfNums y161).size ≤ 9223372036854775807) = true := decide_eq_true c10
        try have c10b2 : (9223372036854775807 < (strOfNums y161).size + (strOfNums y161).size) = False := eq_false (Nat.not_lt.2 c10)
        by_cases c11 : (strOfNums y161).size + (strOfNums y161).size + (strOfNums y161).size ≤ 9223372036854775807
        · rw [if_pos c11] at H
          have c11b0 := eq_true c11
          have c11b1 : decide ((strOfNums y161).size + (strOfNums y161).size + (strOfNums y161).size ≤ 9223372036854775807) = true := decide_eq_true c11
          try have c11b2 : (9223372036854775807 < (strOfNums y161).size + (strOfNums y161).size + (strOfNums y161).size) = False := eq_false (Nat.not_lt.2 c11)
          by_cases c12 : (strOfNums y161).size + (strOfNums y161).size + (strOfNums y161).size + a3.size ≤ 9223372036854775807
          · rw [if_pos c12] at H
            have c12b0 := eq_true c12
            have c12b1 : decide ((strOfNums y161).size + (strOfNums y161).size + (strOfNums y161).size + a3.size ≤ 9223372036854775807) = true := decide_eq_true c12
            try have c12b2 : (9223372036854775807 < (strOfNums y161).size + (strOfNums y161).size + (strOfNums y161).size + a3.size) = False := eq_false (Nat.not_lt.2 c12)
            replace H := Option.bind_eq_some_iff.mp H
            obtain ⟨⟨t164, t165⟩, A130, H⟩ := H
            replace H : (portmanteaulaw07_MatchCopies.l0 k (wrap64 (1 + (wrap64 (Int.tmod a4 9)))) (strOfNums y161) t165 0 t164 (t164.length : Int) 0) = some r := H
            have A13 := Aside0.mk A130
            clear A130
            have H' := Aside0.mk H
            clear H
            go_enter Try.func6, Try.ntmps6
            go_wp2_with (first | ((with_reducible refine gate_callee (f := 9) rfl ?_); refine goesL_ (some 20) rfl rfl Try.func9 (by kernel_rfl) rfl #[] rfl (by (try simp only [List.map_toArray, List.map_cons, List.map_nil]); first | done | rfl | (simp only [List.length_drop, List.length_take]; rfl)) ?_; (with_reducible refine (portmanteaulaw07_awake.calls  true _ A6.out).mono ?_); rintro e w14 ⟨rfl, hb⟩; refine ⟨_, rfl, ?_⟩; have n0_ := Aside0.mk (below_step (by repeat (first | (with_reducible first | exact HB.out | apply below_alloc | apply pw_below_drewN | apply below_drew1) | exact HB.out)) hb); clear HB; have HB := n0_; clear n0_; (try clear hb); (try clear hb2); (try clear hk); (try clear hi)) | ((with_reducible refine gate_dst (N := 32) rfl ?_); (try (refine gate_guard (by rfl) ?_; dsimp only)); refine Kd.R_lit (Kd.int .u8) _ 5 ?hg (N := 32) ?hd (xs := ([a0, a1, a2] : List Int)) (inner := [.int .u8 a0, .int .u8 a1, .int .u8 a2]) (ok := fun _ => True) (okp := fun _ => True) ?hr ?hp (fun _ hk => hk) trivial (Below.refl _ _) (Nat.le_refl _) (by simp) ?_; (case hd => rfl); (case hg => rfl); (case hr => first | (go_simp; done) | (go_simp; rfl)); (case hp => exact (Reps.one (show Kd.M (Kd.int .u8) _ _ _ a0 [.int .u8 a0] from rfl) (Reps.one (show Kd.M (Kd.int .u8) _ _ _ a1 [.int .u8 a1] from rfl) (Reps.one (show Kd.M (Kd.int .u8) _ _ _ a2 [.int .u8 a2] from rfl) (Reps.none _ _))))); intro v162 w15 ho16 hb hg_ hnew_; clear hg_ hnew_; (first | rw [← Ny161.out] at ho16 | (simp only [Int.reduceToNat] at ho16; rw [← Ny161.out] at ho16)); have n0_ := Aside0.mk (Kd.R_lower ho16 (below_size (by repeat (first | (with_reducible first | exact HB.out | apply below_alloc | apply pw_below_drewN | apply below_drew1) | exact HB.out)))); have n1_ := Aside0.mk (below_step (by repeat (first | (with_reducible first | exact HB.out | apply below_alloc | apply pw_below_drewN | apply below_drew1) | exact HB.out)) hb); clear HB; have HO163 := n0_; have HB := n1_; clear n0_ n1_; clear hb ho16; have hcv17 := own_string (P := Try.prog) Try.underlying47 Try.underlying5 Try.underlying9 (Kd.own_of_R HO163.out)) | ((with_reducible refine gate_callee (f := 17) rfl ?_); refine goesL_ (some 43) rfl rfl Try.func17 (by kernel_rfl) rfl #[.string ((((strOfNums y161) ++ (strOfNums y161)) ++ (strOfNums y161)) ++ a3), .int .i64 (wrap64 (1 + (wrap64 (Int.tmod a4 9))))] rfl (by (try simp only [List.map_toArray, List.map_cons, List.map_nil]); first | done | rfl | (simp only [List.length_drop, List.length_take]; rfl)) ?_; (with_reducible refine (match_Find.calls ((((strOfNums y161) ++ (strOfNums y161)) ++ (strOfNums y161)) ++ a3) (wrap64 (1 + (wrap64 (Int.tmod a4 9)))) t164 t165 _ A13.out).mono ?_); rintro e w18 ⟨v166, rfl, ho0, hb⟩; refine ⟨_, rfl, ?_⟩; have n0_ := Aside0.mk (Kd.R_below (by (with_reducible repeat (first | apply Kd.R_alloc | apply Kd.R_drewN | apply Kd.R_drew)); exact HO163.out) hb); have n1_ := Aside0.mk (Kd.R_lower ho0 (below_size (by repeat (first | (with_reducible first | exact HB.out | apply below_alloc | apply pw_below_drewN | apply below_drew1) | exact HB.out)))); have n2_ := Aside0.mk (below_step (by repeat (first | (with_reducible first | exact HB.out | apply below_alloc | apply pw_below_drewN | apply below_drew1) | exact HB.out)) hb); clear HO163; clear HB; have HO163 := n0_; have HO167 := n1_; have HB := n2_; clear n0_ n1_ n2_; (try clear hb); (try clear hb2); (try clear hk); (try clear hi); (try clear ho0); obtain ⟨Ao19, co19, eo19⟩ := Kd.R_slice HO167.out; subst eo19))
            go_loopg [15, 48] k (fun kq v15 v48 w' => ∃ (x15_1 : Int) (x48_1 : Int), v15 = .int .i64 x15_1 ∧ v48 = .int .i64 x48_1 ∧ Aside0 (portmanteaulaw07_MatchCopies.l0 kq (wrap64 (1 + (wrap64 (Int.tmod a4 9)))) (strOfNums y161) t165 x15_1 t164 (t164.length : Int) x48_1 = some r) ∧ Aside0 (kq ≤ k) ∧ Aside0 (Kd.R k25 25 w' w.heap.size (fun _ => True) (.slice Ao19 t164.length co19) t164) ∧ Aside0 (Below w.heap.size w w'))
            case atStart => exact ⟨(0), (0), (by first | rfl | (simp; done) | (simp [*]; done)), (by first | rfl | (simp; done) | (simp [*]; done)), H', ⟨Nat.le_refl _⟩, ⟨by (with_reducible repeat (first | apply Kd.R_alloc | apply Kd.R_drewN | apply Kd.R_drew)); exact HO167.out⟩, ⟨by repeat (first | (with_reducible first | exact HB.out | apply below_alloc | apply pw_below_drewN | apply below_drew1) | exact HB.out)⟩⟩
            case round =>
              clear H'
              try clear c1
              try clear hcv1
              try clear p2
              try clear c6
              try clear p6
              try clear c7
              try clear c8
              try clear c8b0
              try clear c8b1
              try clear c9
              try clear c10
              try clear c10b0
              try clear c10b1
              try clear c10b2
              try clear c11
              try clear c11b0
              try clear c11b1
              try clear c11b2
              try clear c12
              try clear c12b0
              try clear c12b1
              try clear c12b2
              try clear c17
              try clear hcv17
              obtain ⟨x15_1, x48_1, rfl, rfl, HA, HK1, HO_46, HB⟩ := hrel
              cases gk with
              | zero => exact absurd HA.out (by simp [portmanteaulaw07_MatchCopies.l0])
              | succ k1 =>
                have H := HA.out
                clear HA
                simp only [portmanteaulaw07_MatchCopies.l0] at H
                by_cases c20 : x48_1 < (t164.length : Int)
                · rw [if_pos c20] at H
                  have c20b0 : decide (x48_1 < (t164.length : Int)) = true := decide_eq_true c20
                  clear c20
                  by_cases c21 : 0 ≤ x48_1
                  · rw [if_pos c21] at H
                    have c21b0 : decide (0 ≤ x48_1) = true := decide_eq_true c21
                    clear c21
                    by_cases c22 : x48_1 < (t164.length : Int)
                    · rw [if_pos c22] at H
                      have c22b0 : decide (x48_1 < (t164.length : Int)) = true := decide_eq_true c22
                      clear c22
                      by_cases c23 : ((rd_T25 t164 x48_1).f1) > 0
                      · rw [if_pos c23] at H
                        have c23b0 : decide (0 < ((rd_T25 t164 x48_1).f1)) = true := decide_eq_true c23
                        clear c23
                        have H' := Aside0.mk H
                        clear H
                        have p168 : 0 ≤ (x48_1 : Int) := of_decide_eq_true (by first | (with_reducible assumption) | assumption)
                        have q168 : x48_1 < (t164.length : Int) := of_decide_eq_true (by first | (with_reducible assumption) | assumption)
                        obtain ⟨ad168, e168, hx168_0, hx168_1, hx168_2⟩ := at_T25 (Kd.R_reads' HO_46.out).2.2 x48_1 p168 q168
                        cases e168
                        replace p168 := eq_true p168
                        replace q168 := eq_true q168
                        go_wp2_with (first | ((with_reducible refine gate_dst (N := 17) rfl ?_); (try (refine gate_guard (by rfl) ?_; dsimp only)); refine box_event ?hg (N := 17) ?hd (cs := #[.int .u8 0, .int .i64 0, .int .i64 0]) (t := 25) ?hr ?_; (case hd => rfl); (case hg => rfl); (case hr => first | (go_simp; done) | (go_simp; rfl)); intro gb169 hg w24 hbox hb; have n0_ := Aside0.mk (Kd.R_below (Kd.R_elderB (by (with_reducible repeat (first | apply Kd.R_alloc | apply Kd.R_drewN | apply Kd.R_drew)); exact HO_46.out) gb169 (Nat.le_of_eq hg.symm)) hb); have n1_ := Aside0.mk (below_step (by repeat (first | (with_reducible first | exact HB.out | apply below_alloc | apply pw_below_drewN | apply below_drew1) | exact HB.out)) hb); have n2_ := Aside0.mk (hbox); have n3_ := Aside0.mk ((by rw [hg]; exact (below_size (by repeat (first | (with_reducible first | exact HB.out | apply below_alloc | apply pw_below_drewN | apply below_drew1) | exact HB.out))) : w.heap.size ≤ gb169)); have n4_ := Aside0.mk ((by rw [hg]; exact (below_size (by repeat (first | (with_reducible first | exact HB.out | apply below_alloc | apply pw_below_drewN | apply below_drew1) | exact HB.out))) : w.heap.size ≤ gb169)); clear HO_46; clear HB; have HO_46 := n0_; have HB := n1_; have BK169 := n2_; have GW169 := n3_; have GE169 := n4_; clear n0_ n1_ n2_ n3_ n4_; clear hb hbox hg; have hcz25_0 : w24.cell? ⟨gb169, 0, none⟩ = some (.int .u8 0) := (blk_cell BK169.out 0).trans rfl; have hcz25_1 : w24.cell? ⟨gb169, 1, none⟩ = some (.int .i64 0) := (blk_cell BK169.out 1).trans rfl; have hcz25_2 : w24.cell? ⟨gb169, 2, none⟩ = some (.int .i64 0) := (blk_cell BK169.out 2).trans rfl; have hfz25_0 := blk_frozen BK169.out 0; have hfz25_1 := blk_frozen BK169.out 1; have hfz25_2 := blk_frozen BK169.out 2))
                        go_roundg k1
                        case measure => have := HK1.out; omega
                        case rel => exact ⟨(wrap64 (x15_1 + 1)), (wrap64 (x48_1 + 1)), (by first | rfl | (simp; done) | (simp [*]; done)), (by first | rfl | (simp; done) | (simp [*]; done)), H', ⟨by have := HK1.out; omega⟩, ⟨by (with_reducible repeat (first | apply Kd.R_alloc | apply Kd.R_drewN | apply Kd.R_drew)); exact Kd.R_mono (Kd.R_far (p := ⟨gb169, 2, none⟩) (Kd.R_far (p := ⟨gb169, 1, none⟩) (Kd.R_far (p := ⟨gb169, 0, none⟩) (Kd.R_mono HO_46.out (fun k_ hk => (⟨hk, hk.2⟩ : _ ∧ k_ ≠ gb169))) (fun _ hk => hk.2) (.int .u8 ((rd_T25 t164 x48_1).f0))) (fun _ hk => hk.2) (.int .i64 ((rd_T25 t164 x48_1).f1))) (fun _ hk => hk.2) (.int .i64 ((rd_T25 t164 x48_1).f2))) (fun _ hk => trivial)⟩, ⟨by repeat (first | (with_reducible first | exact HB.out | apply below_alloc | apply pw_below_drewN | apply below_drew1 | refine below_set ?_ GE169.out) | exact HB.out)⟩⟩
                      · rw [if_neg c23] at H
                        have c23b0 : decide (0 < ((rd_T25 t164 x48_1).f1)) = false := decide_eq_false c23
                        clear c23
                        have H' := Aside0.mk H
                        clear H
                        have p168 : 0 ≤ (x48_1 : Int) := of_decide_eq_true (by first | (with_reducible assumption) | assumption)
                        have q168 : x48_1 < (t164.length : Int) := of_decide_eq_true (by first | (with_reducible assumption) | assumption)
                        obtain ⟨ad168, e168, hx168_0, hx168_1, hx168_2⟩ := at_T25 (Kd.R_reads' HO_46.out).2.2 x48_1 p168 q168
                        cases e168
                        replace p168 := eq_true p168
                        replace q168 := eq_true q168
                        go_wp2_with (first | ((with_reducible refine gate_dst (N := 17) rfl ?_); (try (refine gate_guard (by rfl) ?_; dsimp only)); refine box_event ?hg (N := 17) ?hd (cs := #[.int .u8 0, .int .i64 0, .int .i64 0]) (t := 25) ?hr ?_; (case hd => rfl); (case hg => rfl); (case hr => first | (go_simp; done) | (go_simp; rfl)); intro gb169 hg w26 hbox hb; have n0_ := Aside0.mk (Kd.R_below (Kd.R_elderB (by (with_reducible repeat (first | apply Kd.R_alloc | apply Kd.R_drewN | apply Kd.R_drew)); exact HO_46.out) gb169 (Nat.le_of_eq hg.symm)) hb); have n1_ := Aside0.mk (below_step (by repeat (first | (with_reducible first | exact HB.out | apply below_alloc | apply pw_below_drewN | apply below_drew1) | exact HB.out)) hb); have n2_ := Aside0.mk (hbox); have n3_ := Aside0.mk ((by rw [hg]; exact (below_size (by repeat (first | (with_reducible first | exact HB.out | apply below_alloc | apply pw_below_drewN | apply below_drew1) | exact HB.out))) : w.heap.size ≤ gb169)); have n4_ := Aside0.mk ((by rw [hg]; exact (below_size (by repeat (first | (with_reducible first | exact HB.out | apply below_alloc | apply pw_below_drewN | apply below_drew1) | exact HB.out))) : w.heap.size ≤ gb169)); clear HO_46; clear HB; have HO_46 := n0_; have HB := n1_; have BK169 := n2_; have GW169 := n3_; have GE169 := n4_; clear n0_ n1_ n2_ n3_ n4_; clear hb hbox hg; have hcz27_0 : w26.cell? ⟨gb169, 0, none⟩ = some (.int .u8 0) := (blk_cell BK169.out 0).trans rfl; have hcz27_1 : w26.cell? ⟨gb169, 1, none⟩ = some (.int .i64 0) := (blk_cell BK169.out 1).trans rfl; have hcz27_2 : w26.cell? ⟨gb169, 2, none⟩ = some (.int .i64 0) := (blk_cell BK169.out 2).trans rfl; have hfz27_0 := blk_frozen BK169.out 0; have hfz27_1 := blk_frozen BK169.out 1; have hfz27_2 := blk_frozen BK169.out 2))
                        go_roundg k1
                        case measure => have := HK1.out; omega
                        case rel => exact ⟨(x15_1), (wrap64 (x48_1 + 1)), (by first | rfl | (simp; done) | (simp [*]; done)), (by first | rfl | (simp; done) | (simp [*]; done)), H', ⟨by have := HK1.out; omega⟩, ⟨by (with_reducible repeat (first | apply Kd.R_alloc | apply Kd.R_drewN | apply Kd.R_drew)); exact Kd.R_mono (Kd.R_far (p := ⟨gb169, 2, none⟩) (Kd.R_far (p := ⟨gb169, 1, none⟩) (Kd.R_far (p := ⟨gb169, 0, none⟩) (Kd.R_mono HO_46.out (fun k_ hk => (⟨hk, hk.2⟩ : _ ∧ k_ ≠ gb169))) (fun _ hk => hk.2) (.int .u8 ((rd_T25 t164 x48_1).f0))) (fun _ hk => hk.2) (.int .i64 ((rd_T25 t164 x48_1).f1))) (fun _ hk => hk.2) (.int .i64 ((rd_T25 t164 x48_1).f2))) (fun _ hk => trivial)⟩, ⟨by repeat (first | (with_reducible first | exact HB.out | apply below_alloc | apply pw_below_drewN | apply below_drew1 | refine below_set ?_ GE169.out) | exact HB.out)⟩⟩
                    · rw [if_neg c22] at H
                      exact absurd H (by simp)
                  · rw [if_neg c21] at H
                    exact absurd H (by simp)
                · rw [if_neg c20] at H
                  have c20b0 : decide (x48_1 < (t164.length : Int)) = false := decide_eq_false c20
                  clear c20
                  by_cases c28 : (strOfNums y161).size + (strOfNums y161).size ≤ 9223372036854775807
                  · rw [if_pos c28] at H
                    have c28b0 := eq_true c28
                    have c28b1 : decide ((strOfNums y161).size + (strOfNums y161).size ≤ 9223372036854775807) = true := decide_eq_true c28
                    try have c28b2 : (9223372036854775807 < (strOfNums y161).size + (strOfNums y161).size) = False := eq_false (Nat.not_lt.2 c28)
                    by_cases c29 : (strOfNums y161).size + (strOfNums y161).size + (strOfNums y161).size ≤ 9223372036854775807
                    · rw [if_pos c29] at H
                      have c29b0 := eq_true c29
                      have c29b1 : decide ((strOfNums y161).size + (strOfNums y161).size + (strOfNums y161).size ≤ 9223372036854775807) = true := decide_eq_true c29
                      try have c29b2 : (9223372036854775807 < (strOfNums y161).size + (strOfNums y161).size + (strOfNums y161).size) = False := eq_false (Nat.not_lt.2 c29)
                      by_cases c30 : (strOfNums y161).size + (strOfNums y161).size + (strOfNums y161).size + (strOfNums y161).size ≤ 9223372036854775807
                      · rw [if_pos c30] at H
                        have c30b0 := eq_true c30
                        have c30b1 : decide ((strOfNums y161).size + (strOfNums y161).size + (strOfNums y161).size + (strOfNums y161).size ≤ 9223372036854775807) = true := decide_eq_true c30
                        try have c30b2 : (9223372036854775807 < (strOfNums y161).size + (strOfNums y161).size + (strOfNums y161).size + (strOfNums y161).size) = False := eq_false (Nat.not_lt.2 c30)
                        by_cases c31 : (strOfNums y161).size + (strOfNums y161).size + (strOfNums y161).size + (strOfNums y161).size + (strOfNums y161).size ≤ 9223372036854775807
                        · rw [if_pos c31] at H
                          have c31b0 := eq_true c31
                          have c31b1 : decide ((strOfNums y161).size + (strOfNums y161).size + (strOfNums y161).size + (strOfNums y161).size + (strOfNums y161).size ≤ 9223372036854775807) = true := decide_eq_true c31
                          try have c31b2 : (9223372036854775807 < (strOfNums y161).size + (strOfNums y161).size + (strOfNums y161).size + (strOfNums y161).size + (strOfNums y161).size) = False := eq_false (Nat.not_lt.2 c31)
                          by_cases c32 : (strOfNums y161).size + (strOfNums y161).size + (strOfNums y161).size + (strOfNums y161).size + (strOfNums y161).size + (strOfNums y161).size ≤ 9223372036854775807
                          · rw [if_pos c32] at H
                            have c32b0 := eq_true c32
                            have c32b1 : decide ((strOfNums y161).size + (strOfNums y161).size + (strOfNums y161).size + (strOfNums y161).size + (strOfNums y161).size + (strOfNums y161).size ≤ 9223372036854775807) = true := decide_eq_true c32
                            try have c32b2 : (9223372036854775807 < (strOfNums y161).size + (strOfNums y161).size + (strOfNums y161).size + (strOfNums y161).size + (strOfNums y161).size + (strOfNums y161).size) = False := eq_false (Nat.not_lt.2 c32)
                            by_cases c33 : (strOfNums y161).size + (strOfNums y161).size + (strOfNums y161).size + (strOfNums y161).size + (strOfNums y161).size + (strOfNums y161).size + (strOfNums y161).size ≤ 9223372036854775807
                            · rw [if_pos c33] at H
                              have c33b0 := eq_true c33
                              have c33b1 : decide ((strOfNums y161).size + (strOfNums y161).size + (strOfNums y161).size + (strOfNums y161).size + (strOfNums y161).size + (strOfNums y161).size + (strOfNums y161).size ≤ 9223372036854775807) = true := decide_eq_true c33
                              try have c33b2 : (9223372036854775807 < (strOfNums y161).size + (strOfNums y161).size + (strOfNums y161).size + (strOfNums y161).size + (strOfNums y161).size + (strOfNums y161).size + (strOfNums y161).size) = False := eq_false (Nat.not_lt.2 c33)
                              by_cases c34 : (strOfNums y161).size + (strOfNums y161).size + (strOfNums y161).size + (strOfNums y161).size + (strOfNums y161).size + (strOfNums y161).size + (strOfNums y161).size + (strOfNums y161).size ≤ 9223372036854775807
                              · rw [if_pos c34] at H
                                have c34b0 := eq_true c34
                                have c34b1 : decide ((strOfNums y161).size + (strOfNums y161).size + (strOfNums y161).size + (strOfNums y161).size + (strOfNums y161).size + (strOfNums y161).size + (strOfNums y161).size + (strOfNums y161).size ≤ 9223372036854775807) = true := decide_eq_true c34
                                try have c34b2 : (9223372036854775807 < (strOfNums y161).size + (strOfNums y161).size + (strOfNums y161).size + (strOfNums y161).size + (strOfNums y161).size + (strOfNums y161).size + (strOfNums y161).size + (strOfNums y161).size) = False := eq_false (Nat.not_lt.2 c34)
                                by_cases c35 : (strOfNums y161).size + (strOfNums y161).size + (strOfNums y161).size + (strOfNums y161).size + (strOfNums y161).size + (strOfNums y161).size + (strOfNums y161).size + (strOfNums y161).size + (strOfNums y161).size ≤ 9223372036854775807
                                · rw [if_pos c35] at H
                                  have c35b0 := eq_true c35
                                  have c35b1 : decide ((strOfNums y161).size + (strOfNums y161).size + (strOfNums y161).size + (strOfNums y161).size + (strOfNums y161).size + (strOfNums y161).size + (strOfNums y161).size + (strOfNums y161).size + (strOfNums y161).size ≤ 9223372036854775807) = true := decide_eq_true c35
                                  try have c35b2 : (9223372036854775807 < (strOfNums y161).size + (strOfNums y161).size + (strOfNums y161).size + (strOfNums y161).size + (strOfNums y161).size + (strOfNums y161).size + (strOfNums y161).size + (strOfNums y161).size + (strOfNums y161).size) = False := eq_false (Nat.not_lt.2 c35)
                                  replace H := Option.bind_eq_some_iff.mp H
                                  obtain ⟨⟨t170, t171⟩, A360, H⟩ := H
                                  replace H : (if t165 = 0 then (if x15_1 > 0 then (if t171 = 0 then (some (decide ((t170.length : Int) ≤ 8))) else (some false)) else (some false)) else (some false)) = some r := H
                                  have A36 := Aside0.mk A360
                                  clear A360
                                  by_cases c37 : t165 = 0
                                  · rw [if_pos c37] at H
                                    have c37b0 : (t165 == 0) = true := beq_iff_eq.mpr c37
                                    have c37b1 : (t165 != 0) = false := bne_eq_false_iff_eq.mpr c37
                                    clear c37
                                    by_cases c38 : x15_1 > 0
                                    · rw [if_pos c38] at H
                                      have c38b0 : decide (0 < x15_1) = true := decide_eq_true c38
                                      clear c38
                                      by_cases c39 : t171 = 0
                                      · rw [if_pos c39] at H
                                        have c39b0 : (t171 == 0) = true := beq_iff_eq.mpr c39
                                        have c39b1 : (t171 != 0) = false := bne_eq_false_iff_eq.mpr c39
                                        clear c39
                                        obtain rfl := Option.some.inj H
                                        go_wp2_with (first | ((with_reducible refine gate_callee (f := 17) rfl ?_); refine goesL_ (some 77) rfl rfl Try.func17 (by kernel_rfl) rfl #[.string (((((((((strOfNums y161) ++ (strOfNums y161)) ++ (strOfNums y161)) ++ (strOfNums y161)) ++ (strOfNums y161)) ++ (strOfNums y161)) ++ (strOfNums y161)) ++ (strOfNums y161)) ++ (strOfNums y161)), .int .i64 (wrap64 (1 + (wrap64 (Int.tmod a4 9))))] rfl (by (try simp only [List.map_toArray, List.map_cons, List.map_nil]); first | done | rfl | (simp only [List.length_drop, List.length_take]; rfl)) ?_; (with_reducible refine (match_Find.calls (((((((((strOfNums y161) ++ (strOfNums y161)) ++ (strOfNums y161)) ++ (strOfNums y161)) ++ (strOfNums y161)) ++ (strOfNums y161)) ++ (strOfNums y161)) ++ (strOfNums y161)) ++ (strOfNums y161)) (wrap64 (1 + (wrap64 (Int.tmod a4 9)))) t170 t171 _ A36.out).mono ?_); rintro e w40 ⟨v172, rfl, ho0, hb⟩; refine ⟨_, rfl, ?_⟩; have n0_ := Aside0.mk (Kd.R_elder' (by (with_reducible repeat (first | apply Kd.R_alloc | apply Kd.R_drewN | apply Kd.R_drew)); exact HO_46.out) (Kd.R_base ho0) hb); have n1_ := Aside0.mk (Kd.R_lower (Kd.R_new' ho0 (Kd.R_lt (by (with_reducible repeat (first | apply Kd.R_alloc | apply Kd.R_drewN | apply Kd.R_drew)); exact HO_46.out))) (below_size (by repeat (first | (with_reducible first | exact HB.out | apply below_alloc | apply pw_below_drewN | apply below_drew1) | exact HB.out)))); have n2_ := Aside0.mk (below_step (by repeat (first | (with_reducible first | exact HB.out | apply below_alloc | apply pw_below_drewN | apply below_drew1) | exact HB.out)) hb); clear HO_46; clear HB; have HO_46 := n0_; have HO173 := n1_; have HB := n2_; clear n0_ n1_ n2_; (try clear hb); (try clear hb2); (try clear hk); (try clear hi); (try clear ho0); obtain ⟨Ao41, co41, eo41⟩ := Kd.R_slice HO173.out; subst eo41))
                                        go_ret
                                        exact ⟨by first | rfl | (simp [errW_none, errW_some] <;> rfl) | (simp [*, errW_none, errW_some] <;> rfl), by repeat (first | (with_reducible first | exact HB.out | apply below_alloc | apply pw_below_drewN | apply below_drew1) | exact HB.out)⟩
                                      · rw [if_neg c39] at H
                                        have c39b0 : (t171 == 0) = false := beq_eq_false_iff_ne.mpr c39
                                        have c39b1 : (t171 != 0) = true := bne_iff_ne.mpr c39
                                        obtain rfl := Option.some.inj H
                                        go_wp2_with (first | ((with_reducible refine gate_callee (f := 17) rfl ?_); refine goesL_ (some 77) rfl rfl Try.func17 (by kernel_rfl) rfl #[.string (((((((((strOfNums y161) ++ (strOfNums y161)) ++ (strOfNums y161)) ++ (strOfNums y161)) ++ (strOfNums y161)) ++ (strOfNums y161)) ++ (strOfNums y161)) ++ (strOfNums y161)) ++ (strOfNums y161)), .int .i64 (wrap64 (1 + (wrap64 (Int.tmod a4 9))))] rfl (by (try simp only [List.map_toArray, List.map_cons, List.map_nil]); first | done | rfl | (simp only [List.length_drop, List.length_take]; rfl)) ?_; (with_reducible refine (match_Find.calls (((((((((strOfNums y161) ++ (strOfNums y161)) ++ (strOfNums y161)) ++ (strOfNums y161)) ++ (strOfNums y161)) ++ (strOfNums y161)) ++ (strOfNums y161)) ++ (strOfNums y161)) ++ (strOfNums y161)) (wrap64 (1 + (wrap64 (Int.tmod a4 9)))) t170 t171 _ A36.out).mono ?_); rintro e w42 ⟨v172, rfl, ho0, hb⟩; refine ⟨_, rfl, ?_⟩; have n0_ := Aside0.mk (Kd.R_elder' (by (with_reducible repeat (first | apply Kd.R_alloc | apply Kd.R_drewN | apply Kd.R_drew)); exact HO_46.out) (Kd.R_base ho0) hb); have n1_ := Aside0.mk (Kd.R_lower (Kd.R_new' ho0 (Kd.R_lt (by (with_reducible repeat (first | apply Kd.R_alloc | apply Kd.R_drewN | apply Kd.R_drew)); exact HO_46.out))) (below_size (by repeat (first | (with_reducible first | exact HB.out | apply below_alloc | apply pw_below_drewN | apply below_drew1) | exact HB.out)))); have n2_ := Aside0.mk (below_step (by repeat (first | (with_reducible first | exact HB.out | apply below_alloc | apply pw_below_drewN | apply below_drew1) | exact HB.out)) hb); clear HO_46; clear HB; have HO_46 := n0_; have HO173 := n1_; have HB := n2_; clear n0_ n1_ n2_; (try clear hb); (try clear hb2); (try clear hk); (try clear hi); (try clear ho0)))
                                        go_ret
                                        exact ⟨by first | rfl | (simp [errW_none, errW_some] <;> rfl) | (simp [*, errW_none, errW_some] <;> rfl), by repeat (first | (with_reducible first | exact HB.out | apply below_alloc | apply pw_below_drewN | apply below_drew1) | exact HB.out)⟩
                                    · rw [if_neg c38] at H
                                      have c38b0 : decide (0 < x15_1) = false := decide_eq_false c38
                                      clear c38
                                      obtain rfl := Option.some.inj H
                                      go_wp2_with (first | ((with_reducible refine gate_callee (f := 17) rfl ?_); refine goesL_ (some 77) rfl rfl Try.func17 (by kernel_rfl) rfl #[.string (((((((((strOfNums y161) ++ (strOfNums y161)) ++ (strOfNums y161)) ++ (strOfNums y161)) ++ (strOfNums y161)) ++ (strOfNums y161)) ++ (strOfNums y161)) ++ (strOfNums y161)) ++ (strOfNums y161)), .int .i64 (wrap64 (1 + (wrap64 (Int.tmod a4 9))))] rfl (by (try simp only [List.map_toArray, List.map_cons, List.map_nil]); first | done | rfl | (simp only [List.length_drop, List.length_take]; rfl)) ?_; (with_reducible refine (match_Find.calls (((((((((strOfNums y161) ++ (strOfNums y161)) ++ (strOfNums y161)) ++ (strOfNums y161)) ++ (strOfNums y161)) ++ (strOfNums y161)) ++ (strOfNums y161)) ++ (strOfNums y161)) ++ (strOfNums y161)) (wrap64 (1 + (wrap64 (Int.tmod a4 9)))) t170 t171 _ A36.out).mono ?_); rintro e w43 ⟨v172, rfl, ho0, hb⟩; refine ⟨_, rfl, ?_⟩; have n0_ := Aside0.mk (Kd.R_elder' (by (with_reducible repeat (first | apply Kd.R_alloc | apply Kd.R_drewN | apply Kd.R_drew)); exact HO_46.out) (Kd.R_base ho0) hb); have n1_ := Aside0.mk (Kd.R_lower (Kd.R_new' ho0 (Kd.R_lt (by (with_reducible repeat (first | apply Kd.R_alloc | apply Kd.R_drewN | apply Kd.R_drew)); exact HO_46.out))) (below_size (by repeat (first | (with_reducible first | exact HB.out | apply below_alloc | apply pw_below_drewN | apply below_drew1) | exact HB.out)))); have n2_ := Aside0.mk (below_step (by repeat (first | (with_reducible first | exact HB.out | apply below_alloc | apply pw_below_drewN | apply below_drew1) | exact HB.out)) hb); clear HO_46; clear HB; have HO_46 := n0_; have HO173 := n1_; have HB := n2_; clear n0_ n1_ n2_; (try clear hb); (try clear hb2); (try clear hk); (try clear hi); (try clear ho0)))
                                      go_ret
                                      exact ⟨by first | rfl | (simp [errW_none, errW_some] <;> rfl) | (simp [*, errW_none, errW_some] <;> rfl), by repeat (first | (with_reducible first | exact HB.out | apply below_alloc | apply pw_below_drewN | apply below_drew1) | exact HB.out)⟩
                                  · rw [if_neg c37] at H
                                    have c37b0 : (t165 == 0) = false := beq_eq_false_iff_ne.mpr c37
                                    have c37b1 : (t165 != 0) = true := bne_iff_ne.mpr c37
                                    obtain rfl := Option.some.inj H
                                    go_wp2_with (first | ((with_reducible refine gate_callee (f := 17) rfl ?_); refine goesL_ (some 77) rfl rfl Try.func17 (by kernel_rfl) rfl #[.string (((((((((strOfNums y161) ++ (strOfNums y161)) ++ (strOfNums y161)) ++ (strOfNums y161)) ++ (strOfNums y161)) ++ (strOfNums y161)) ++ (strOfNums y161)) ++ (strOfNums y161)) ++ (strOfNums y161)), .int .i64 (wrap64 (1 + (wrap64 (Int.tmod a4 9))))] rfl (by (try simp only [List.map_toArray, List.map_cons, List.map_nil]); first | done | rfl | (simp only [List.length_drop, List.length_take]; rfl)) ?_; (with_reducible refine (match_Find.calls (((((((((strOfNums y161) ++ (strOfNums y161)) ++ (strOfNums y161)) ++ (strOfNums y161)) ++ (strOfNums y161)) ++ (strOfNums y161)) ++ (strOfNums y161)) ++ (strOfNums y161)) ++ (strOfNums y161)) (wrap64 (1 + (wrap64 (Int.tmod a4 9)))) t170 t171 _ A36.out).mono ?_); rintro e w44 ⟨v172, rfl, ho0, hb⟩; refine ⟨_, rfl, ?_⟩; have n0_ := Aside0.mk (Kd.R_elder' (by (with_reducible repeat (first | apply Kd.R_alloc | apply Kd.R_drewN | apply Kd.R_drew)); exact HO_46.out) (Kd.R_base ho0) hb); have n1_ := Aside0.mk (Kd.R_lower (Kd.R_new' ho0 (Kd.R_lt (by (with_reducible repeat (first | apply Kd.R_alloc | apply Kd.R_drewN | apply Kd.R_drew)); exact HO_46.out))) (below_size (by repeat (first | (with_reducible first | exact HB.out | apply below_alloc | apply pw_below_drewN | apply below_drew1) | exact HB.out)))); have n2_ := Aside0.mk (below_step (by repeat (first | (with_reducible first | exact HB.out | apply below_alloc | apply pw_below_drewN | apply below_drew1) | exact HB.out)) hb); clear HO_46; clear HB; have HO_46 := n0_; have HO173 := n1_; have HB := n2_; clear n0_ n1_ n2_; (try clear hb); (try clear hb2); (try clear hk); (try clear hi); (try clear ho0)))
                                    go_ret
                                    exact ⟨by first | rfl | (simp [errW_none, errW_some] <;> rfl) | (simp [*, errW_none, errW_some] <;> rfl), by repeat (first | (with_reducible first | exact HB.out | apply below_alloc | apply pw_below_drewN | apply below_drew1) | exact HB.out)⟩
                                · rw [if_neg c35] at H
                                  exact absurd H (by simp)
                              · rw [if_neg c34] at H
                                exact absurd H (by simp)
                            · rw [if_neg c33] at H
                              exact absurd H (by simp)
                          · rw [if_neg c32] at H
                            exact absurd H (by simp)
                        · rw [if_neg c31] at H
                          exact absurd H (by simp)
                      · rw [if_neg c30] at H
                        exact absurd H (by simp)
                    · rw [if_neg c29] at H
                      exact absurd H (by simp)
                  · rw [if_neg c28] at H
                    exact absurd H (by simp)
          · rw [if_neg c12] at H
            exact absurd H (by simp)
        · rw [if_neg c11] at H
          exact absurd H (by simp)
      · rw [if_neg c10] at H
        exact absurd H (by simp)
  · replace c7 := Bool.eq_false_iff.mpr c7
    subst c7
    have H1 : (some false) = some r := by rw [if_neg (show ¬ (false = true) by decide)] at H; exact H
    clear H
    have H := H1
    clear H1
    obtain rfl := Option.some.inj H
    go_enter Try.func6, Try.ntmps6
    go_wp2_with (first | ((with_reducible refine gate_callee (f := 9) rfl ?_); refine goesL_ (some 20) rfl rfl Try.func9 (by kernel_rfl) rfl #[] rfl (by (try simp only [List.map_toArray, List.map_cons, List.map_nil]); first | done | rfl | (simp only [List.length_drop, List.length_take]; rfl)) ?_; (with_reducible refine (portmanteaulaw07_awake.calls  false _ A6.out).mono ?_); rintro e w45 ⟨rfl, hb⟩; refine ⟨_, rfl, ?_⟩; have n0_ := Aside0.mk (below_step (by repeat (first | (with_reducible first | exact HB.out | apply below_alloc | apply pw_below_drewN | apply below_drew1) | exact HB.out)) hb); clear HB; have HB := n0_; clear n0_; (try clear hb); (try clear hb2); (try clear hk); (try clear hi)))
    go_ret
    exact ⟨by first | rfl | (simp [errW_none, errW_some] <;> rfl) | (simp [*, errW_none, errW_some] <;> rfl), by repeat (first | (with_reducible first | exact HB.out | apply below_alloc | apply pw_below_drewN | apply below_drew1) | exact HB.out)⟩

/-- THE ONE PURE STATEMENT of portmanteaulaw07_MatchCopies: yours. -/
def portmanteaulaw07_MatchCopies.Pure : Prop := ∀ (a0 : Int) (a1 : Int) (a2 : Int) (a3 : ByteArray) (a4 : Int), (Lit.int .u8 a0).wf = true → (Lit.int .u8 a1).wf = true → (Lit.int .u8 a2).wf = true → a3.size ≤ 140737488351232 → (Lit.int .u8 a4).wf = true → ∃ k, portmanteaulaw07_MatchCopies.f k a0 a1 a2 a3 a4 = some true
theorem portmanteaulaw07_MatchCopies.walk (P : portmanteaulaw07_MatchCopies.Pure) (a0 : Int) (a1 : Int) (a2 : Int) (a3 : ByteArray) (a4 : Int) (w : World) (w0 : (Lit.int .u8 a0).wf = true) (w1 : (Lit.int .u8 a1).wf = true) (w2 : (Lit.int .u8 a2).wf = true) (w3 : a3.size ≤ 140737488351232) (w4 : (Lit.int .u8 a4).wf = true) :
    Calls Try.prog 6 #[.int .u8 a0, .int .u8 a1, .int .u8 a2, .string a3, .int .u8 a4] w fun e w' => e = .returned (.bool true) ∧ Below w.heap.size w w' := by
  obtain ⟨k, h⟩ := P a0 a1 a2 a3 a4 w0 w1 w2 w3 w4
  refine (portmanteaulaw07_MatchCopies.calls k a0 a1 a2 a3 a4 true w h).mono ?_
  rintro e w' ⟨rfl, hd⟩
  exact ⟨rfl, hd⟩

end Go.Proofs.Ytgpmhdefpbmhjaa.P
