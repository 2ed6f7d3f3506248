import Derived.Test.YtnjfddmajiihjaaPx0
import Derived.Test.YtnjfddmajiihjaaPx11
import Derived.Test.YtnjfddmajiihjaaPx12
namespace Go.Proofs.Ytnjfddmajiihjaa.P
open Go.RowKit Go.Proofs.YtnjfddmajiihjaaW.PrintWords Go.Proofs.YtnjfddmajiihjaaW.PrintLast Go.Proofs.YtnjfddmajiihjaaW.PrintMore
attribute [local go_sem] max2_int min2_int max_two min_two max_three min_three max_four min_four
attribute [local go_sem] Go.Proofs.Ytnjfddmajiihjaa.Mx.max_five Go.Proofs.Ytnjfddmajiihjaa.Mx.max_six Go.Proofs.Ytnjfddmajiihjaa.Mx.max_seven
set_option linter.unusedVariables false
set_option linter.unusedSimpArgs false
def portmanteauref17_Parse.l0 : Nat → ByteArray → Int → List Int → List ByteArray → List Int → Int → Int → Option (List Int × List ByteArray × Int × Int)
  | 0, _, _, _, _, _, _, _ => none
  | k + 1, x0, x12, x13, x14, x35, x36, x37 => if x37 < x36 then (if 0 ≤ x37 then (if x37 < (x35.length : Int) then (if 0 ≤ (rd x35 x37) then (if (rd x35 x37) < (x13.length : Int) then (if (x0.size : Int) < (wrap64 (x12 + (wrap64 (rd x13 (rd x35 x37))))) then (some (([] : List Int), ([] : List ByteArray), 0, 3)) else (if 0 ≤ x12 then (if x12 ≤ (wrap64 (x12 + (wrap64 (rd x13 (rd x35 x37))))) then (if (wrap64 (x12 + (wrap64 (rd x13 (rd x35 x37))))) ≤ (x0.size : Int) then (if x14.length < 8796093022208 then (portmanteauref17_Parse.l0 k x0 (wrap64 (x12 + (wrap64 (rd x13 (rd x35 x37))))) x13 (x14 ++ [x0.extract (x12 : Int).toNat ((wrap64 (x12 + (wrap64 (rd x13 (rd x35 x37))))) : Int).toNat]) x35 x36 (wrap64 (x37 + 1))) else (none)) else (none)) else (none)) else (none))) else (none)) else (none)) else (none)) else (none)) else (some (x13, x14, x12, 0))
def portmanteauref17_Parse.f (k : Nat) (a0 : ByteArray) (l1 : List Int) (a2 : Int) (l3 : List Int) : Option (List Int × List ByteArray × Int × Int) := if (a0.size : Int) < 4 then (some (([] : List Int), ([] : List ByteArray), 0, 3)) else (if 0 ≤ 4 then (if 4 ≤ (a0.size : Int) then ((portmanteauref01_Number.f k (a0.extract 0 4)).bind fun t241 => (if t241 = a2 then ((portmanteauref17_sum.f k l1).bind fun t242 => (if (a0.size : Int) < t242 then (some (([] : List Int), ([] : List ByteArray), 0, 3)) else ((portmanteauref17_Row.f k a0 l1).bind fun t243 => (portmanteauref17_Parse.l0 k a0 t242 t243 ([] : List ByteArray) l3 (l3.length : Int) 0)))) else (some (([] : List Int), ([] : List ByteArray), 0, 4)))) else (none)) else (none))
set_option maxHeartbeats 8000000 in
set_option maxRecDepth 100000 in
theorem portmanteauref17_Parse.calls (k : Nat) (a0 : ByteArray) (A1 : Option Addr) (c1 : Nat) (l1 : List Int) (a2 : Int) (A3 : Option Addr) (c3 : Nat) (l3 : List Int) (r1 : List Int) (r2 : List ByteArray) (r3 : Int) (r4 : Int) (w : World) (hr1 : Kd.C (Kd.int .i64) w A1 l1.length l1) (hc1 : l1.length ≤ c1) (hr3 : Kd.C (Kd.int .i64) w A3 l3.length l3) (hc3 : l3.length ≤ c3) (h : portmanteauref17_Parse.f k a0 l1 a2 l3 = some (r1, r2, r3, r4)) :
    Calls Try.prog 18 #[.string a0, .slice A1 l1.length c1, .int .u64 a2, .slice A3 l3.length c3] w fun e w' => ∃ v0_ v1_ : Value, e = .returned (.tuple #[v0_, v1_, .int .i64 r3, .int .i64 r4]) ∧ Kd.R (Kd.int .u64) 28 w' w.heap.size (fun _ => True) v0_ r1 ∧ Kd.R Kd.string 9 w' w.heap.size (fun _ => True) v1_ r2 ∧ Below w.heap.size w w' := by
  have HR1 := Aside0.mk hr1
  have HC1 := Aside0.mk hc1
  clear hr1 hc1
  have HR3 := Aside0.mk hr3
  have HC3 := Aside0.mk hc3
  clear hr3 hc3
  have HB := Aside0.mk (Below.refl w.heap.size w)
  have H : (if (a0.size : Int) < 4 then (some (([] : List Int), ([] : List ByteArray), 0, 3)) else (if 0 ≤ 4 then (if 4 ≤ (a0.size : Int) then ((portmanteauref01_Number.f k (a0.extract 0 4)).bind fun t241 => (if t241 = a2 then ((portmanteauref17_sum.f k l1).bind fun t242 => (if (a0.size : Int) < t242 then (some (([] : List Int), ([] : List ByteArray), 0, 3)) else ((portmanteauref17_Row.f k a0 l1).bind fun t243 => (portmanteauref17_Parse.l0 k a0 t242 t243 ([] : List ByteArray) l3 (l3.length : Int) 0)))) else (some (([] : List Int), ([] : List ByteArray), 0, 4)))) else (none)) else (none))) = some (r1, r2, r3, r4) := h
  clear h
  by_cases c5 : (a0.size : Int) < 4
  · rw [if_pos c5] at H
    have c5b0 : decide ((a0.size : Int) < 4) = true := decide_eq_true c5
    have c5b1 : decide (a0.size < 4) = true := decide_eq_true (by omega)
    clear c5
    simp only [Option.some.injEq, Prod.mk.injEq] at H
    obtain ⟨rfl, rfl, rfl, rfl⟩ := H
    go_enter Try.func18, Try.ntmps18
    go_wp2
    refine bodyPost_ret (results_list (rs := [.tmp 8, .tmp 9, .tmp 10, .tmp 11]) rfl (by simp) (.tmp (.tmp (.tmp (.tmp .nil))))) rfl ?_
    exact ⟨_, _, by first | rfl | (simp [errW_none, errW_some] <;> rfl) | (simp [*, errW_none, errW_some] <;> rfl), by first | exact Kd.R_nil _ _ _ _ _ | exact Kd.N_nil _ _ _ _ _ | exact Kd.V_nil _ _ _ _ _ | exact Kd.Q_nil _ _ _ _ _ | exact Kd.S_nil _ _ _ _ _, by first | exact Kd.R_nil _ _ _ _ _ | exact Kd.N_nil _ _ _ _ _ | exact Kd.V_nil _ _ _ _ _ | exact Kd.Q_nil _ _ _ _ _ | exact Kd.S_nil _ _ _ _ _, by repeat (first | (with_reducible first | exact HB.out | apply below_alloc | apply pw_below_drewN | apply below_drew1) | exact HB.out)⟩
  · rw [if_neg c5] at H
    have c5b0 : decide ((a0.size : Int) < 4) = false := decide_eq_false c5
    have c5b1 : decide (a0.size < 4) = false := decide_eq_false (by omega)
    clear c5
    by_cases c6 : 0 ≤ 4
    · rw [if_pos c6] at H
      have c6b0 := eq_true c6
      have c6b1 : decide (0 ≤ 4) = true := decide_eq_true c6
      clear c6
      by_cases c7 : 4 ≤ (a0.size : Int)
      · rw [if_pos c7] at H
        have c7b0 := eq_true c7
        have c7b1 : decide (4 ≤ (a0.size : Int)) = true := decide_eq_true c7
        clear c7
        replace H := Option.bind_eq_some_iff.mp H
        obtain ⟨t241, A80, H⟩ := H
        replace H : (if t241 = a2 then ((portmanteauref17_sum.f k l1).bind fun t242 => (if (a0.size : Int) < t242 then (some (([] : List Int), ([] : List ByteArray), 0, 3)) else ((portmanteauref17_Row.f k a0 l1).bind fun t243 => (portmanteauref17_Parse.l0 k a0 t242 t243 ([] : List ByteArray) l3 (l3.length : Int) 0)))) else (some (([] : List Int), ([] : List ByteArray), 0, 4))) = some (r1, r2, r3, r4) := H
        have A8 := Aside0.mk A80
        clear A80
        by_cases c9 : t241 = a2
        · rw [if_pos c9] at H
          have c9b0 : (t241 == a2) = true := beq_iff_eq.mpr c9
          have c9b1 : (t241 != a2) = false := bne_eq_false_iff_eq.mpr c9
          clear c9
          replace H := Option.bind_eq_some_iff.mp H
          obtain ⟨t242, A100, H⟩ := H
          replace H : (if (a0.size : Int) < t242 then (some (([] : List Int), ([] : List ByteArray), 0, 3)) else ((portmanteauref17_Row.f k a0 l1).bind fun t243 => (portmanteauref17_Parse.l0 k a0 t242 t243 ([] : List ByteArray) l3 (l3.length : Int) 0))) = some (r1, r2, r3, r4) := H
          have A10 := Aside0.mk A100
          clear A100
          by_cases c11 : (a0.size : Int) < t242
          · rw [if_pos c11] at H
            have c11b0 : decide ((a0.size : Int) < t242) = true := decide_eq_true c11
            clear c11
            simp only [Option.some.injEq, Prod.mk.injEq] at H
            obtain ⟨rfl, rfl, rfl, rfl⟩ := H
            go_enter Try.func18, Try.ntmps18
            go_wp2_with (first | ((with_reducible refine gate_callee (f := 34) rfl ?_); refine goesL_ (some 23) rfl rfl Try.func34 (by kernel_rfl) rfl #[.string (a0.extract 0 4)] rfl (by (try simp only [List.map_toArray, List.map_cons, List.map_nil]); first | done | rfl | (simp only [List.length_drop, List.length_take]; rfl)) ?_; (with_reducible refine (portmanteauref01_Number.calls k (a0.extract 0 4) t241 _ A8.out).mono ?_); rintro e w' ⟨rfl, ⟨nd, rfl⟩⟩; refine ⟨_, rfl, ?_⟩) | ((with_reducible refine gate_callee (f := 35) rfl ?_); refine goesL_ (some 27) rfl rfl Try.func35 (by kernel_rfl) rfl #[.slice A1 l1.length c1] rfl (by (try simp only [List.map_toArray, List.map_cons, List.map_nil]); first | done | rfl | (simp only [List.length_drop, List.length_take]; rfl)) ?_; (with_reducible refine (portmanteauref17_sum.calls k _ _ l1 t242 _ ?side1 ?side2 A10.out).mono ?_); (case side1 => repeat (first | exact HR1.out | (with_reducible refine Kd.C_alloc ?_ _) | (with_reducible refine Kd.C_drewN ?_ _) | (with_reducible refine Kd.C_drew ?_))); (case side2 => exact HC1.out); rintro e w' ⟨rfl, ⟨nd, rfl⟩⟩; refine ⟨_, rfl, ?_⟩))
            refine bodyPost_ret (results_list (rs := [.tmp 8, .tmp 9, .tmp 10, .tmp 11]) rfl (by simp) (.tmp (.tmp (.tmp (.tmp .nil))))) rfl ?_
            exact ⟨_, _, by first | rfl | (simp [errW_none, errW_some] <;> rfl) | (simp [*, errW_none, errW_some] <;> rfl), by first | exact Kd.R_nil _ _ _ _ _ | exact Kd.N_nil _ _ _ _ _ | exact Kd.V_nil _ _ _ _ _ | exact Kd.Q_nil _ _ _ _ _ | exact Kd.S_nil _ _ _ _ _, by first | exact Kd.R_nil _ _ _ _ _ | exact Kd.N_nil _ _ _ _ _ | exact Kd.V_nil _ _ _ _ _ | exact Kd.Q_nil _ _ _ _ _ | exact Kd.S_nil _ _ _ _ _, by repeat (first | (with_reducible first | exact HB.out | apply below_alloc | apply pw_below_drewN | apply below_drew1) | exact HB.out)⟩
          · rw [if_neg c11] at H
            have c11b0 : decide ((a0.size : Int) < t242) = false := decide_eq_false c11
            clear c11
            replace H := Option.bind_eq_some_iff.mp H
            obtain ⟨t243, A120, H⟩ := H
            replace H : (portmanteauref17_Parse.l0 k a0 t242 t243 ([] : List ByteArray) l3 (l3.length : Int) 0) = some (r1, r2, r3, r4) := H
            have A12 := Aside0.mk A120
            clear A120
            have H' := Aside0.mk H
            clear H
            go_enter Try.func18, Try.ntmps18
            go_wp2_with (first | ((with_reducible refine gate_callee (f := 34) rfl ?_); refine goesL_ (some 23) rfl rfl Try.func34 (by kernel_rfl) rfl #[.string (a0.extract 0 4)] rfl (by (try simp only [List.map_toArray, List.map_cons, List.map_nil]); first | done | rfl | (simp only [List.length_drop, List.length_take]; rfl)) ?_; (with_reducible refine (portmanteauref01_Number.calls k (a0.extract 0 4) t241 _ A8.out).mono ?_); rintro e w' ⟨rfl, ⟨nd, rfl⟩⟩; refine ⟨_, rfl, ?_⟩) | ((with_reducible refine gate_callee (f := 35) rfl ?_); refine goesL_ (some 27) rfl rfl Try.func35 (by kernel_rfl) rfl #[.slice A1 l1.length c1] rfl (by (try simp only [List.map_toArray, List.map_cons, List.map_nil]); first | done | rfl | (simp only [List.length_drop, List.length_take]; rfl)) ?_; (with_reducible refine (portmanteauref17_sum.calls k _ _ l1 t242 _ ?side1 ?side2 A10.out).mono ?_); (case side1 => repeat (first | exact HR1.out | (with_reducible refine Kd.C_alloc ?_ _) | (with_reducible refine Kd.C_drewN ?_ _) | (with_reducible refine Kd.C_drew ?_))); (case side2 => exact HC1.out); rintro e w' ⟨rfl, ⟨nd, rfl⟩⟩; refine ⟨_, rfl, ?_⟩) | ((with_reducible refine gate_callee (f := 36) rfl ?_); refine goesL_ (some 34) rfl rfl Try.func36 (by kernel_rfl) rfl #[.string a0, .slice A1 l1.length c1] rfl (by (try simp only [List.map_toArray, List.map_cons, List.map_nil]); first | done | rfl | (simp only [List.length_drop, List.length_take]; rfl)) ?_; (with_reducible refine (portmanteauref17_Row.calls k a0 _ _ l1 t243 _ ?side1 ?side2 A12.out).mono ?_); (case side1 => repeat (first | exact HR1.out | (with_reducible refine Kd.C_alloc ?_ _) | (with_reducible refine Kd.C_drewN ?_ _) | (with_reducible refine Kd.C_drew ?_))); (case side2 => exact HC1.out); rintro e w13 ⟨v244, rfl, ho0, hb⟩; refine ⟨_, rfl, ?_⟩; have n0_ := Aside0.mk (Kd.R_lower ho0 (below_size (by repeat (first | (with_reducible first | exact HB.out | apply below_alloc | apply pw_below_drewN | apply below_drew1) | exact HB.out)))); have n1_ := Aside0.mk (below_step (by repeat (first | (with_reducible first | exact HB.out | apply below_alloc | apply pw_below_drewN | apply below_drew1) | exact HB.out)) hb); clear HB; have HO245 := n0_; have HB := n1_; clear n0_ n1_; (try clear hb); (try clear hb2); (try clear hk); (try clear hi); (try clear ho0)))
            go_loopg [12, 14, 37] k (fun kq v12 v14 v37 w' => ∃ (x12_1 : Int) (x14_1 : List ByteArray) (x37_1 : Int), v12 = .int .i64 x12_1 ∧ v37 = .int .i64 x37_1 ∧ Aside0 (portmanteauref17_Parse.l0 kq a0 x12_1 t243 x14_1 l3 (l3.length : Int) x37_1 = some (r1, r2, r3, r4)) ∧ Aside0 (kq ≤ k) ∧ Aside0 (Kd.R (Kd.int .u64) 28 w' w.heap.size (fun _ => True) v244 t243) ∧ Aside0 (Kd.R Kd.string 9 w' w.heap.size (fun _ => True) v14 x14_1) ∧ Aside0 (Below w.heap.size w w'))
            case atStart => exact ⟨(t242), (([] : List ByteArray)), (0), (by first | rfl | (simp; done) | (simp [*]; done)), (by first | rfl | (simp; done) | (simp [*]; done)), H', ⟨Nat.le_refl _⟩, ⟨by (with_reducible repeat (first | apply Kd.R_alloc | apply Kd.R_drewN | apply Kd.R_drew)); exact HO245.out⟩, ⟨by first | exact Kd.R_nil _ _ _ _ _ | exact Kd.N_nil _ _ _ _ _ | exact Kd.V_nil _ _ _ _ _ | exact Kd.Q_nil _ _ _ _ _ | exact Kd.S_nil _ _ _ _ _⟩, ⟨by repeat (first | (with_reducible first | exact HB.out | apply below_alloc | apply pw_below_drewN | apply below_drew1) | exact HB.out)⟩⟩
            case round =>
              clear H'
              try clear c1
              try clear p2
              try clear c3
              try clear c5
              try clear c5b0
              try clear c5b1
              try clear c6
              try clear c6b0
              try clear c6b1
              try clear c7
              try clear c7b0
              try clear c7b1
              try clear c9
              try clear c9b0
              try clear c9b1
              try clear c11
              try clear c11b0
              obtain ⟨x12_1, x14_1, x37_1, rfl, rfl, HA, HK1, HO_13, HO_14, HB⟩ := hrel
              cases gk with
              | zero => exact absurd HA.out (by simp [portmanteauref17_Parse.l0])
              | succ k1 =>
                have H := HA.out
                clear HA
                simp only [portmanteauref17_Parse.l0] at H
                by_cases c14 : x37_1 < (l3.length : Int)
                · rw [if_pos c14] at H
                  have c14b0 : decide (x37_1 < (l3.length : Int)) = true := decide_eq_true c14
                  clear c14
                  by_cases c15 : 0 ≤ x37_1
                  · rw [if_pos c15] at H
                    have c15b0 : decide (0 ≤ x37_1) = true := decide_eq_true c15
                    clear c15
                    by_cases c16 : x37_1 < (l3.length : Int)
                    · rw [if_pos c16] at H
                      have c16b0 : decide (x37_1 < (l3.length : Int)) = true := decide_eq_true c16
                      clear c16
                      by_cases c17 : 0 ≤ (rd l3 x37_1)
                      · rw [if_pos c17] at H
                        have c17b0 : decide (0 ≤ (rd l3 x37_1)) = true := decide_eq_true c17
                        clear c17
                        by_cases c18 : (rd l3 x37_1) < (t243.length : Int)
                        · rw [if_pos c18] at H
                          have c18b0 : decide ((rd l3 x37_1) < (t243.length : Int)) = true := decide_eq_true c18
                          clear c18
                          by_cases c19 : (a0.size : Int) < (wrap64 (x12_1 + (wrap64 (rd t243 (rd l3 x37_1)))))
                          · rw [if_pos c19] at H
                            have c19b0 : decide ((a0.size : Int) < (wrap64 (x12_1 + (wrap64 (rd t243 (rd l3 x37_1)))))) = true := decide_eq_true c19
                            clear c19
                            simp only [Option.some.injEq, Prod.mk.injEq] at H
                            obtain ⟨rfl, rfl, rfl, rfl⟩ := H
                            have p246 : 0 ≤ (x37_1 : Int) := of_decide_eq_true (by first | (with_reducible assumption) | assumption)
                            have q246 : x37_1 < (l3.length : Int) := of_decide_eq_true (by first | (with_reducible assumption) | assumption)
                            obtain ⟨ad246, e246, hx246_0⟩ := Kd.at_int HR3.out x37_1 p246 q246
                            cases e246
                            replace hx246_0 := (HB.out.cell (World.block_lt_of_cell? w _ hx246_0)).trans hx246_0
                            replace p246 := eq_true p246
                            replace q246 := eq_true q246
                            obtain ⟨Ao20, co20, eo20⟩ := Kd.R_slice HO_13.out
                            subst eo20
                            have p247 : 0 ≤ ((rd l3 x37_1) : Int) := of_decide_eq_true (by first | (with_reducible assumption) | assumption)
                            have q247 : (rd l3 x37_1) < (t243.length : Int) := of_decide_eq_true (by first | (with_reducible assumption) | assumption)
                            obtain ⟨ad247, e247, hx247_0⟩ := Kd.at_int (Kd.R_reads' HO_13.out).2.2 (rd l3 x37_1) p247 q247
                            cases e247
                            replace p247 := eq_true p247
                            replace q247 := eq_true q247
                            go_wp2
                            refine bodyPost_ret (results_list (rs := [.tmp 8, .tmp 9, .tmp 10, .tmp 11]) rfl (by simp) (.tmp (.tmp (.tmp (.tmp .nil))))) rfl ?_
                            exact ⟨_, _, by first | rfl | (simp [errW_none, errW_some] <;> rfl) | (simp [*, errW_none, errW_some] <;> rfl), by first | exact Kd.R_nil _ _ _ _ _ | exact Kd.N_nil _ _ _ _ _ | exact Kd.V_nil _ _ _ _ _ | exact Kd.Q_nil _ _ _ _ _ | exact Kd.S_nil _ _ _ _ _, by first | exact Kd.R_nil _ _ _ _ _ | exact Kd.N_nil _ _ _ _ _ | exact Kd.V_nil _ _ _ _ _ | exact Kd.Q_nil _ _ _ _ _ | exact Kd.S_nil _ _ _ _ _, by repeat (first | (with_reducible first | exact HB.out | apply below_alloc | apply pw_below_drewN | apply below_drew1) | exact HB.out)⟩
                          · rw [if_neg c19] at H
                            have c19b0 : decide ((a0.size : Int) < (wrap64 (x12_1 + (wrap64 (rd t243 (rd l3 x37_1)))))) = false := decide_eq_false c19
                            clear c19
                            by_cases c21 : 0 ≤ x12_1
                            · rw [if_pos c21] at H
                              have c21b0 := eq_true c21
                              have c21b1 : decide (0 ≤ x12_1) = true := decide_eq_true c21
                              clear c21
                              by_cases c22 : x12_1 ≤ (wrap64 (x12_1 + (wrap64 (rd t243 (rd l3 x37_1)))))
                              · rw [if_pos c22] at H
                                have c22b0 := eq_true c22
                                have c22b1 : decide (x12_1 ≤ (wrap64 (x12_1 + (wrap64 (rd t243 (rd l3 x37_1)))))) = true := decide_eq_true c22
                                by_cases c23 : (wrap64 (x12_1 + (wrap64 (rd t243 (rd l3 x37_1))))) ≤ (a0.size : Int)
                                · rw [if_pos c23] at H
                                  have c23b0 := eq_true c23
                                  have c23b1 : decide ((wrap64 (x12_1 + (wrap64 (rd t243 (rd l3 x37_1))))) ≤ (a0.size : Int)) = true := decide_eq_true c23
                                  by_cases c24 : x14_1.length < 8796093022208
                                  · rw [if_pos c24] at H
                                    have LMc24 := Aside0.mk c24
                                    clear c24
                                    obtain ⟨y248, hy248⟩ : ∃ y_ : List ByteArray, y_ = (x14_1 ++ [a0.extract (x12_1 : Int).toNat ((wrap64 (x12_1 + (wrap64 (rd t243 (rd l3 x37_1))))) : Int).toNat]) := ⟨_, rfl⟩
                                    replace H : (portmanteauref17_Parse.l0 k1 a0 (wrap64 (x12_1 + (wrap64 (rd t243 (rd l3 x37_1))))) t243 y248 l3 (l3.length : Int) (wrap64 (x37_1 + 1))) = some (r1, r2, r3, r4) := by first | (rw [hy248]; with_reducible exact H) | (have H2_ := (Option.bind_some _ _).symm.trans H; rw [hy248]; with_reducible exact H2_) | (have H2_ := (Option.bind_some _ _).symm.trans H; with_reducible exact H2_) | with_reducible exact H | (rw [hy248]; exact H) | exact H
                                    have Ny248 := Aside0.mk hy248
                                    clear hy248
                                    have H' := Aside0.mk H
                                    clear H
                                    have p246 : 0 ≤ (x37_1 : Int) := of_decide_eq_true (by first | (with_reducible assumption) | assumption)
                                    have q246 : x37_1 < (l3.length : Int) := of_decide_eq_true (by first | (with_reducible assumption) | assumption)
                                    obtain ⟨ad246, e246, hx246_0⟩ := Kd.at_int HR3.out x37_1 p246 q246
                                    cases e246
                                    replace hx246_0 := (HB.out.cell (World.block_lt_of_cell? w _ hx246_0)).trans hx246_0
                                    replace p246 := eq_true p246
                                    replace q246 := eq_true q246
                                    obtain ⟨Ao25, co25, eo25⟩ := Kd.R_slice HO_13.out
                                    subst eo25
                                    have p247 : 0 ≤ ((rd l3 x37_1) : Int) := of_decide_eq_true (by first | (with_reducible assumption) | assumption)
                                    have q247 : (rd l3 x37_1) < (t243.length : Int) := of_decide_eq_true (by first | (with_reducible assumption) | assumption)
                                    obtain ⟨ad247, e247, hx247_0⟩ := Kd.at_int (Kd.R_reads' HO_13.out).2.2 (rd l3 x37_1) p247 q247
                                    cases e247
                                    replace p247 := eq_true p247
                                    replace q247 := eq_true q247
                                    go_wp2_with (first | ((with_reducible refine gate_builtin (b := .append) (xs := #[.tmp 52, .tmp 59]) rfl ?_); at_builtin; refine Kd.R_append Kd.string (w0 := w) w.heap.size rfl (.tmp 52) (.tmp 59) 49 9 (.string ⟨#[]⟩) 16 rfl Try.underlying49 info9 rfl (by decide) (by omega) u14 x14_1 (a0.extract (x12_1 : Int).toNat ((wrap64 (x12_1 + (wrap64 (rd t243 (rd l3 x37_1))))) : Int).toNat) [.string (a0.extract (x12_1 : Int).toNat ((wrap64 (x12_1 + (wrap64 (rd t243 (rd l3 x37_1))))) : Int).toNat)] (fun _ => True) (fun _ => False) rfl rfl ?aP (fun _ hk => hk.elim) ?aF ?aO ?aB ?aS ?aL ?_; (case aP => exact rfl); (case aB => exact (by repeat (first | (with_reducible first | exact HB.out | apply below_alloc | apply pw_below_drewN | apply below_drew1) | exact HB.out))); (case aF => exact (fun _ _ => trivial)); (case aO => exact (by (with_reducible repeat (first | apply Kd.R_alloc | apply Kd.R_drewN | apply Kd.R_drew)); exact HO_14.out)); (case aS => exact (below_size (by repeat (first | (with_reducible first | exact HB.out | apply below_alloc | apply pw_below_drewN | apply below_drew1) | exact HB.out)))); (case aL => have := LMc24.out; omega); intro v249 w26 ho hb hg hat; rw [← Ny248.out] at ho; have n0_ := Aside0.mk (Kd.R_over' (by (with_reducible repeat (first | apply Kd.R_alloc | apply Kd.R_drewN | apply Kd.R_drew)); exact HO_13.out) (Kd.R_typed (by (with_reducible repeat (first | apply Kd.R_alloc | apply Kd.R_drewN | apply Kd.R_drew)); exact HO_14.out)) (by decide) hg); have n1_ := Aside0.mk (hb); have n2_ := Aside0.mk (ho); clear HO_13; clear HB; clear HO_14; have HO_13 := n0_; have HB := n1_; have HO250 := n2_; clear n0_ n1_ n2_; clear ho hb hg hat))
                                    go_roundg k1
                                    case measure => have := HK1.out; omega
                                    case rel => exact ⟨(wrap64 (x12_1 + (wrap64 (rd t243 (rd l3 x37_1))))), (y248), (wrap64 (x37_1 + 1)), (by first | rfl | (simp; done) | (simp [*]; done)), (by first | rfl | (simp; done) | (simp [*]; done)), H', ⟨by have := HK1.out; omega⟩, ⟨by (with_reducible repeat (first | apply Kd.R_alloc | apply Kd.R_drewN | apply Kd.R_drew)); exact HO_13.out⟩, ⟨by (with_reducible repeat (first | apply Kd.R_alloc | apply Kd.R_drewN | apply Kd.R_drew)); exact HO250.out⟩, ⟨by repeat (first | (with_reducible first | exact HB.out | apply below_alloc | apply pw_below_drewN | apply below_drew1) | exact HB.out)⟩⟩
                                  · rw [if_neg c24] at H
                                    exact absurd H (by simp)
                                · rw [if_neg c23] at H
                                  exact absurd H (by simp)
                              · rw [if_neg c22] at H
                                exact absurd H (by simp)
                            · rw [if_neg c21] at H
                              exact absurd H (by simp)
                        · rw [if_neg c18] at H
                          exact absurd H (by simp)
                      · rw [if_neg c17] at H
                        exact absurd H (by simp)
                    · rw [if_neg c16] at H
                      exact absurd H (by simp)
                  · rw [if_neg c15] at H
                    exact absurd H (by simp)
                · rw [if_neg c14] at H
                  have c14b0 : decide (x37_1 < (l3.length : Int)) = false := decide_eq_false c14
                  clear c14
                  simp only [Option.some.injEq, Prod.mk.injEq] at H
                  obtain ⟨rfl, rfl, rfl, rfl⟩ := H
                  go_wp2
                  refine bodyPost_ret (results_list (rs := [.tmp 8, .tmp 9, .tmp 10, .tmp 11]) rfl (by simp) (.tmp (.tmp (.tmp (.tmp .nil))))) rfl ?_
                  exact ⟨_, _, by first | rfl | (simp [errW_none, errW_some] <;> rfl) | (simp [*, errW_none, errW_some] <;> rfl), by (with_reducible repeat (first | apply Kd.R_alloc | apply Kd.R_drewN | apply Kd.R_drew)); exact HO_13.out, by (with_reducible repeat (first | apply Kd.R_alloc | apply Kd.R_drewN | apply Kd.R_drew)); exact HO_14.out, by repeat (first | (with_reducible first | exact HB.out | apply below_alloc | apply pw_below_drewN | apply below_drew1) | exact HB.out)⟩
        · rw [if_neg c9] at H
          have c9b0 : (t241 == a2) = false := beq_eq_false_iff_ne.mpr c9
          have c9b1 : (t241 != a2) = true := bne_iff_ne.mpr c9
          simp only [Option.some.injEq, Prod.mk.injEq] at H
          obtain ⟨rfl, rfl, rfl, rfl⟩ := H
          go_enter Try.func18, Try.ntmps18
          go_wp2_with (first | ((with_reducible refine gate_callee (f := 34) rfl ?_); refine goesL_ (some 23) rfl rfl Try.func34 (by kernel_rfl) rfl #[.string (a0.extract 0 4)] rfl (by (try simp only [List.map_toArray, List.map_cons, List.map_nil]); first | done | rfl | (simp only [List.length_drop, List.length_take]; rfl)) ?_; (with_reducible refine (portmanteauref01_Number.calls k (a0.extract 0 4) t241 _ A8.out).mono ?_); rintro e w' ⟨rfl, ⟨nd, rfl⟩⟩; refine ⟨_, rfl, ?_⟩))
          refine bodyPost_ret (results_list (rs := [.tmp 8, .tmp 9, .tmp 10, .tmp 11]) rfl (by simp) (.tmp (.tmp (.tmp (.tmp .nil))))) rfl ?_
          exact ⟨_, _, by first | rfl | (simp [errW_none, errW_some] <;> rfl) | (simp [*, errW_none, errW_some] <;> rfl), by first | exact Kd.R_nil _ _ _ _ _ | exact Kd.N_nil _ _ _ _ _ | exact Kd.V_nil _ _ _ _ _ | exact Kd.Q_nil _ _ _ _ _ | exact Kd.S_nil _ _ _ _ _, by first | exact Kd.R_nil _ _ _ _ _ | exact Kd.N_nil _ _ _ _ _ | exact Kd.V_nil _ _ _ _ _ | exact Kd.Q_nil _ _ _ _ _ | exact Kd.S_nil _ _ _ _ _, by repeat (first | (with_reducible first | exact HB.out | apply below_alloc | apply pw_below_drewN | apply below_drew1) | exact HB.out)⟩
      · rw [if_neg c7] at H
        exact absurd H (by simp)
    · rw [if_neg c6] at H
      exact absurd H (by simp)
end Go.Proofs.Ytnjfddmajiihjaa.P
