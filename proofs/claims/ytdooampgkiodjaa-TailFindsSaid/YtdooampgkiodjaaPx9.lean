import Derived.Test.YtdooampgkiodjaaPx0
namespace Go.Proofs.Ytdooampgkiodjaa.P
open Go.RowKit Go.Proofs.YtdooampgkiodjaaW.PrintWords Go.Proofs.YtdooampgkiodjaaW.PrintLast Go.Proofs.YtdooampgkiodjaaW.PrintMore
attribute [local go_sem] max2_int min2_int max_two min_two max_three min_three max_four min_four
set_option linter.unusedVariables false
set_option linter.unusedSimpArgs false
def cursor_Of.l0 : Nat → Int → List Int → Int → Int → Option (ByteArray)
  | 0, _, _, _, _ => none
  | k + 1, x0, x5, x13, x14 => if x14 < x13 then (if 0 ≤ (wrap64 (8 * x14)) then (if 0 ≤ x14 then (if x14 < (x5.length : Int) then (cursor_Of.l0 k x0 (x5.set (x14 : Int).toNat ((shr .u64 x0 (wrap64 (8 * x14))) % 256)) x13 (wrap64 (x14 + 1))) else (none)) else (none)) else (none)) else (some (strOfNums x5))
def cursor_Of.f (k : Nat) (a0 : Int) (a1 : Int) : Option (ByteArray) := if 0 ≤ (mn (mx a1 0) 64) then (if (mn (mx a1 0) 64 : Int).toNat ≤ 281474976710656 then ((some (List.replicate (mn (mx a1 0) 64 : Int).toNat 0 : List Int)).bind fun y257 => (cursor_Of.l0 k a0 y257 (mn (y257.length : Int) 8) 0)) else (none)) else (none)
set_option maxHeartbeats 8000000 in
set_option maxRecDepth 100000 in
theorem cursor_Of.calls (k : Nat) (a0 : Int) (a1 : Int) (r : ByteArray) (w : World) (h : cursor_Of.f k a0 a1 = some r) :
    Calls Try.prog 47 #[.int .u64 a0, .int .i64 a1] w fun e w' => e = .returned (.string r) ∧ Below w.heap.size w w' := by
  have HB := Aside0.mk (Below.refl w.heap.size w)
  have H : (if 0 ≤ (mn (mx a1 0) 64) then (if (mn (mx a1 0) 64 : Int).toNat ≤ 281474976710656 then ((some (List.replicate (mn (mx a1 0) 64 : Int).toNat 0 : List Int)).bind fun y257 => (cursor_Of.l0 k a0 y257 (mn (y257.length : Int) 8) 0)) else (none)) else (none)) = some r := h
  clear h
  obtain ⟨ji3, hji3⟩ : ∃ j_ : Int, (mx a1 0) = j_ := ⟨_, rfl⟩
  replace H : (if 0 ≤ (mn (ji3) 64) then (if (mn (ji3) 64 : Int).toNat ≤ 281474976710656 then ((some (List.replicate (mn (ji3) 64 : Int).toNat 0 : List Int)).bind fun y257 => (cursor_Of.l0 k a0 y257 (mn (y257.length : Int) 8) 0)) else (none)) else (none)) = some r := by first | (rw [hji3] at H; exact H) | (simp only [hji3] at H ⊢; exact H)
  (try (have hji3l : 0 ≤ ji3 := by (rw [← hji3]; unfold mx; (repeat' split) <;> omega)))
  (try (have hji3m : 0 ≤ ji3 := by omega))
  have hji3_ : (if a1 < 0 then 0 else a1) = ji3 := hji3
  obtain ⟨ji4, hji4⟩ : ∃ j_ : Int, (mn (ji3) 64) = j_ := ⟨_, rfl⟩
  replace H : (if 0 ≤ (ji4) then (if (ji4 : Int).toNat ≤ 281474976710656 then ((some (List.replicate (ji4 : Int).toNat 0 : List Int)).bind fun y257 => (cursor_Of.l0 k a0 y257 (mn (y257.length : Int) 8) 0)) else (none)) else (none)) = some r := by first | (rw [hji4] at H; exact H) | (simp only [hji4] at H ⊢; exact H)
  have hji4_ : (if 64 < (ji3) then 64 else (ji3)) = ji4 := hji4
  by_cases c5 : 0 ≤ (ji4)
  · rw [if_pos c5] at H
    have c5b0 := eq_true c5
    have c5b1 : decide (0 ≤ (ji4)) = true := decide_eq_true c5
    clear c5
    by_cases c6 : (ji4 : Int).toNat ≤ 281474976710656
    · rw [if_pos c6] at H
      have c6b0 := eq_true c6
      have c6b1 : decide ((ji4 : Int).toNat ≤ 281474976710656) = true := decide_eq_true c6
      clear c6
      obtain ⟨y257, hy257⟩ : ∃ y_ : List Int, y_ = (List.replicate (ji4 : Int).toNat 0) := ⟨_, rfl⟩
      replace H : (cursor_Of.l0 k a0 y257 (mn (y257.length : Int) 8) 0) = some r := by first | (rw [hy257]; with_reducible exact H) | (have H2_ := (Option.bind_some _ _).symm.trans H; rw [hy257]; with_reducible exact H2_) | (have H2_ := (Option.bind_some _ _).symm.trans H; with_reducible exact H2_) | with_reducible exact H | (rw [hy257]; exact H) | exact H
      have Ny257 := Aside0.mk hy257
      clear hy257
      obtain ⟨ji7, hji7⟩ : ∃ j_ : Int, (mn (y257.length : Int) 8) = j_ := ⟨_, rfl⟩
      replace H : (cursor_Of.l0 k a0 y257 ji7 0) = some r := by first | (rw [hji7] at H; exact H) | (simp only [hji7] at H ⊢; exact H)
      (try (have hji7h : ji7 ≤ 8 := by (rw [← hji7]; unfold mn; (repeat' split) <;> omega)))
      (try (have hji7g : ji7 ≤ 64 := by omega))
      (try (have hji7l : 0 ≤ ji7 := by (rw [← hji7]; unfold mn; (repeat' split) <;> omega)))
      (try (have hji7m : 0 ≤ ji7 := by omega))
      have hji7_ : (if 8 < (y257.length : Int) then 8 else (y257.length : Int)) = ji7 := hji7
      have H' := Aside0.mk H
      clear H
      go_enter Try.func47, Try.ntmps47
      go_wp2_with (first | ((with_reducible refine gate_dst (N := 10) rfl ?_); refine Kd.R_make (Kd.int .u8) _ 5 rfl (N := 10) rfl 37 _ _ rfl ji4 rfl rfl Try.underlying37 (.int .u8 0) 1 info5 rfl (by decide) (by omega) 0 (ok := fun _ => True) (okp := fun _ => True) rfl (fun _ hk => hk) trivial (of_decide_eq_true (by first | (with_reducible assumption) | assumption)) (Nat.le_trans (Nat.mul_le_mul_right _ (of_decide_eq_true (by first | (with_reducible assumption) | assumption) : ji4.toNat ≤ 281474976710656)) (by omega)) (Below.refl _ _) (Nat.le_refl _) ?_; intro v258 w8 ho9 hb hg_ hnew_; clear hg_ hnew_; (first | rw [← Ny257.out] at ho9 | (simp only [Int.reduceToNat] at ho9; rw [← Ny257.out] at ho9)); have n0_ := Aside0.mk (Kd.R_lower ho9 (below_size (by repeat (first | (with_reducible first | exact HB.out | apply below_alloc | apply pw_below_drewN | apply below_drew1) | exact HB.out)))); have n1_ := Aside0.mk (below_step (by repeat (first | (with_reducible first | exact HB.out | apply below_alloc | apply pw_below_drewN | apply below_drew1) | exact HB.out)) hb); clear HB; have HO259 := n0_; have HB := n1_; clear n0_ n1_; clear hb ho9; obtain ⟨Ao10, co10, eo10⟩ := Kd.R_slice HO259.out; subst eo10))
      go_loopg [14] k (fun kq v14 w' => ∃ (x5_1 : List Int) (x14_1 : Int), v14 = .int .i64 x14_1 ∧ Aside0 (cursor_Of.l0 kq a0 x5_1 ji7 x14_1 = some r) ∧ Aside0 (kq ≤ k) ∧ Aside0 (Kd.R (Kd.int .u8) 5 w' w.heap.size (fun _ => True) (.slice Ao10 y257.length co10) x5_1) ∧ Aside0 (Below w.heap.size w w'))
      case atStart => exact ⟨(y257), (0), (by first | rfl | (simp; done) | (simp [*]; done)), H', ⟨Nat.le_refl _⟩, ⟨by (with_reducible repeat (first | apply Kd.R_alloc | apply Kd.R_drewN | apply Kd.R_drew)); exact HO259.out⟩, ⟨by repeat (first | (with_reducible first | exact HB.out | apply below_alloc | apply pw_below_drewN | apply below_drew1) | exact HB.out)⟩⟩
      case round =>
        clear H'
        try clear p2
        try clear c4
        try clear c5
        try clear c5b0
        try clear c5b1
        try clear c6
        try clear c6b0
        try clear c6b1
        obtain ⟨x5_1, x14_1, rfl, HA, HK1, HO_5, HB⟩ := hrel
        have hl5_1 := (Kd.R_reads' HO_5.out).1
        rw [hl5_1] at HO_5
        (try simp only [hl5_1])
        cases gk with
        | zero => exact absurd HA.out (by simp [cursor_Of.l0])
        | succ k1 =>
          have H := HA.out
          clear HA
          simp only [cursor_Of.l0] at H
          by_cases c11 : x14_1 < ji7
          · rw [if_pos c11] at H
            have c11b0 : decide (x14_1 < ji7) = true := decide_eq_true c11
            clear c11
            obtain ⟨ji12, hji12⟩ : ∃ j_ : Int, (wrap64 (8 * x14_1)) = j_ := ⟨_, rfl⟩
            replace H : (if 0 ≤ (ji12) then (if 0 ≤ x14_1 then (if x14_1 < (x5_1.length : Int) then (cursor_Of.l0 k1 a0 (x5_1.set (x14_1 : Int).toNat ((shr .u64 a0 (ji12)) % 256)) ji7 (wrap64 (x14_1 + 1))) else (none)) else (none)) else (none)) = some r := by first | (rw [hji12] at H; exact H) | (simp only [hji12] at H ⊢; exact H)
            have hji12w : (IntKind.i64.wrap (8 * x14_1)) = ji12 := (i64_w _).trans hji12
            by_cases c13 : 0 ≤ (ji12)
            · rw [if_pos c13] at H
              have c13b0 := eq_true c13
              have c13b1 : decide (0 ≤ (ji12)) = true := decide_eq_true c13
              clear c13
              obtain ⟨ji14, hji14⟩ : ∃ j_ : Int, (shr .u64 a0 (ji12)) = j_ := ⟨_, rfl⟩
              replace H : (if 0 ≤ x14_1 then (if x14_1 < (x5_1.length : Int) then (cursor_Of.l0 k1 a0 (x5_1.set (x14_1 : Int).toNat ((ji14) % 256)) ji7 (wrap64 (x14_1 + 1))) else (none)) else (none)) = some r := by first | (rw [hji14] at H; exact H) | (simp only [hji14] at H ⊢; exact H)
              have hji14_ : (a0 / 2 ^ min (ji12).toNat 64) = ji14 := hji14
              have hji14z : (ji12) ≤ 64 → (a0 / 2 ^ (ji12).toNat) = ji14 := shr_small hji14
              by_cases c15 : 0 ≤ x14_1
              · rw [if_pos c15] at H
                have c15b0 : decide (0 ≤ x14_1) = true := decide_eq_true c15
                clear c15
                by_cases c16 : x14_1 < (x5_1.length : Int)
                · rw [if_pos c16] at H
                  have c16b0 : decide (x14_1 < (x5_1.length : Int)) = true := decide_eq_true c16
                  clear c16
                  obtain ⟨y260, hy260⟩ : ∃ y_ : List Int, y_ = (x5_1.set (x14_1 : Int).toNat ((ji14) % 256)) := ⟨_, rfl⟩
                  replace H : (cursor_Of.l0 k1 a0 y260 ji7 (wrap64 (x14_1 + 1))) = some r := by first | (rw [hy260]; with_reducible exact H) | (have H2_ := (Option.bind_some _ _).symm.trans H; rw [hy260]; with_reducible exact H2_) | (have H2_ := (Option.bind_some _ _).symm.trans H; with_reducible exact H2_) | with_reducible exact H | (rw [hy260]; exact H) | exact H
                  have Ny260 := Aside0.mk hy260
                  clear hy260
                  have H' := Aside0.mk H
                  clear H
                  have p17 : 0 ≤ (x14_1 : Int) := of_decide_eq_true (by first | (with_reducible assumption) | assumption)
                  have q17 : (x14_1 : Int) < ((x5_1.length : Int) : Int) := of_decide_eq_true (by first | (with_reducible assumption) | assumption)
                  obtain ⟨go17, co17, eo17, gb17, gl17, cl17, HG17⟩ := Kd.R_form HO_5.out (by omega)
                  (first | cases eo17 | (injection eo17 with ea_ en_ ec_; (first | subst ea_ | (injection ea_ with ea_; subst ea_)); subst ec_; clear en_))
                  have GB17 := Aside0.mk gb17
                  have GG17 := Aside0.mk HG17
                  clear gb17 gl17 HG17
                  obtain ⟨hx17_0, hf17_0⟩ := Kd.R_celln 0 HO_5.out (x14_1 : Int) p17 q17
                  replace p17 := eq_true p17
                  replace q17 := eq_true q17
                  have HP18 := Kd.R_putg HO_5.out (x14_1 : Int) ((ji14) % 256)
                  go_wp2_with (first | ((with_reducible refine gate_store (t := 5) (p := 24) rfl ?_); refine store_event (t := 5) (p := 24) (v := ?vo_w19) (w1 := (wr.setCell ⟨go17, (x14_1 : Int).toNat, none⟩ (.int .u8 ((ji14) % 256)))) ?hg ?ho ?hn ?hr ?_; (case ho => rfl); (case hg => rfl); (case hn => rfl); (case hr => first | (go_simp; done) | (go_simp; rfl)); intro w19 hw; have hg : wr.grownBy w19 (some go17) := (by rw [hw]; exact HP18.2); have hp_ : Kd.R (Kd.int .u8) 5 w19 w.heap.size (fun _ => True) (.slice (some ⟨go17, 0, none⟩) x5_1.length co10) y260 := (by rw [hw, Ny260.out]; exact HP18.1); clear HP18; have n0_ := Aside0.mk (hp_); have n1_ := Aside0.mk ((by rw [hw]; exact below_set (HB.out) GB17.out : Below w.heap.size w w19)); clear HO_5; clear HB; have HO_5 := n0_; have HB := n1_; clear n0_ n1_; clear hg hw hp_))
                  (try simp only [← hl5_1])
                  go_roundg k1
                  case measure => have := HK1.out; omega
                  case rel => exact ⟨(y260), (wrap64 (x14_1 + 1)), (by first | rfl | (simp; done) | (simp [*]; done)), H', ⟨by have := HK1.out; omega⟩, ⟨by (try simp only [hl5_1]); (with_reducible repeat (first | apply Kd.R_alloc | apply Kd.R_drewN | apply Kd.R_drew)); exact HO_5.out⟩, ⟨by repeat (first | (with_reducible first | exact HB.out | apply below_alloc | apply pw_below_drewN | apply below_drew1) | exact HB.out)⟩⟩
                · rw [if_neg c16] at H
                  exact absurd H (by simp)
              · rw [if_neg c15] at H
                exact absurd H (by simp)
            · rw [if_neg c13] at H
              exact absurd H (by simp)
          · rw [if_neg c11] at H
            have c11b0 : decide (x14_1 < ji7) = false := decide_eq_false c11
            clear c11
            obtain rfl := Option.some.inj H
            have hcv20 := own_string (P := Try.prog) Try.underlying37 Try.underlying5 Try.underlying9 (Kd.own_of_R HO_5.out)
            go_wp2
            go_ret
            exact ⟨by first | rfl | (simp [errW_none, errW_some] <;> rfl) | (simp only [← hji3, ← hji4, ← hji7]; first | rfl | (simp [errW_none, errW_some] <;> rfl)) | (simp [*, errW_none, errW_some] <;> rfl), by repeat (first | (with_reducible first | exact HB.out | apply below_alloc | apply pw_below_drewN | apply below_drew1) | exact HB.out)⟩
    · rw [if_neg c6] at H
      exact absurd H (by simp)
  · rw [if_neg c5] at H
    exact absurd H (by simp)
def cursor_Eight.f (k : Nat) (a0 : Int) : Option (ByteArray) := (cursor_Of.f k a0 8).bind fun t261 => (some t261)
set_option maxHeartbeats 8000000 in
set_option maxRecDepth 100000 in
theorem cursor_Eight.calls (k : Nat) (a0 : Int) (r : ByteArray) (w : World) (h : cursor_Eight.f k a0 = some r) :
    Calls Try.prog 26 #[.int .u64 a0] w fun e w' => e = .returned (.string r) ∧ Below w.heap.size w w' := by
  have HB := Aside0.mk (Below.refl w.heap.size w)
  have H : ((cursor_Of.f k a0 8).bind fun t261 => (some t261)) = some r := h
  clear h
  replace H := Option.bind_eq_some_iff.mp H
  obtain ⟨t261, A20, H⟩ := H
  replace H : (some t261) = some r := H
  have A2 := Aside0.mk A20
  clear A20
  obtain rfl := Option.some.inj H
  go_enter Try.func26, Try.ntmps26
  go_wp2_with (first | ((with_reducible refine gate_callee (f := 47) rfl ?_); refine goesL_ (some 4) rfl rfl Try.func47 (by kernel_rfl) rfl #[.int .u64 a0, .int .i64 8] rfl (by (try simp only [List.map_toArray, List.map_cons, List.map_nil]); first | done | rfl | (simp only [List.length_drop, List.length_take]; rfl)) ?_; (with_reducible refine (cursor_Of.calls k a0 8 t261 _ A2.out).mono ?_); rintro e w3 ⟨rfl, hb⟩; refine ⟨_, rfl, ?_⟩; have n0_ := Aside0.mk (below_step (by repeat (first | (with_reducible first | exact HB.out | apply below_alloc | apply pw_below_drewN | apply below_drew1) | exact HB.out)) hb); clear HB; have HB := n0_; clear n0_; (try clear hb); (try clear hb2); (try clear hk); (try clear hi)))
  go_ret
  exact ⟨by first | rfl | (simp [errW_none, errW_some] <;> rfl) | (simp [*, errW_none, errW_some] <;> rfl), by repeat (first | (with_reducible first | exact HB.out | apply below_alloc | apply pw_below_drewN | apply below_drew1) | exact HB.out)⟩
def cursor_Two.f (k : Nat) (a0 : Int) : Option (ByteArray) := (cursor_Of.f k (IntKind.u64.wrap (a0)) 2).bind fun t262 => (some t262)
set_option maxHeartbeats 8000000 in
set_option maxRecDepth 100000 in
theorem cursor_Two.calls (k : Nat) (a0 : Int) (r : ByteArray) (w : World) (h : cursor_Two.f k a0 = some r) :
    Calls Try.prog 27 #[.int .u16 a0] w fun e w' => e = .returned (.string r) ∧ Below w.heap.size w w' := by
  have HB := Aside0.mk (Below.refl w.heap.size w)
  have H : ((cursor_Of.f k (IntKind.u64.wrap (a0)) 2).bind fun t262 => (some t262)) = some r := h
  clear h
  replace H := Option.bind_eq_some_iff.mp H
  obtain ⟨t262, A20, H⟩ := H
  replace H : (some t262) = some r := H
  have A2 := Aside0.mk A20
  clear A20
  obtain rfl := Option.some.inj H
  go_enter Try.func27, Try.ntmps27
  go_wp2_with (first | ((with_reducible refine gate_callee (f := 47) rfl ?_); refine goesL_ (some 5) rfl rfl Try.func47 (by kernel_rfl) rfl #[.int .u64 (IntKind.u64.wrap (a0)), .int .i64 2] rfl (by (try simp only [List.map_toArray, List.map_cons, List.map_nil]); first | done | rfl | (simp only [List.length_drop, List.length_take]; rfl)) ?_; (with_reducible refine (cursor_Of.calls k (IntKind.u64.wrap (a0)) 2 t262 _ A2.out).mono ?_); rintro e w3 ⟨rfl, hb⟩; refine ⟨_, rfl, ?_⟩; have n0_ := Aside0.mk (below_step (by repeat (first | (with_reducible first | exact HB.out | apply below_alloc | apply pw_below_drewN | apply below_drew1) | exact HB.out)) hb); clear HB; have HB := n0_; clear n0_; (try clear hb); (try clear hb2); (try clear hk); (try clear hi)))
  go_ret
  exact ⟨by first | rfl | (simp [errW_none, errW_some] <;> rfl) | (simp [*, errW_none, errW_some] <;> rfl), by repeat (first | (with_reducible first | exact HB.out | apply below_alloc | apply pw_below_drewN | apply below_drew1) | exact HB.out)⟩
def cursor_Four.f (k : Nat) (a0 : Int) : Option (ByteArray) := (cursor_Of.f k (IntKind.u64.wrap (a0)) 4).bind fun t263 => (some t263)
set_option maxHeartbeats 8000000 in
set_option maxRecDepth 100000 in
theorem cursor_Four.calls (k : Nat) (a0 : Int) (r : ByteArray) (w : World) (h : cursor_Four.f k a0 = some r) :
    Calls Try.prog 28 #[.int .u32 a0] w fun e w' => e = .returned (.string r) ∧ Below w.heap.size w w' := by
  have HB := Aside0.mk (Below.refl w.heap.size w)
  have H : ((cursor_Of.f k (IntKind.u64.wrap (a0)) 4).bind fun t263 => (some t263)) = some r := h
  clear h
  replace H := Option.bind_eq_some_iff.mp H
  obtain ⟨t263, A20, H⟩ := H
  replace H : (some t263) = some r := H
  have A2 := Aside0.mk A20
  clear A20
  obtain rfl := Option.some.inj H
  go_enter Try.func28, Try.ntmps28
  go_wp2_with (first | ((with_reducible refine gate_callee (f := 47) rfl ?_); refine goesL_ (some 5) rfl rfl Try.func47 (by kernel_rfl) rfl #[.int .u64 (IntKind.u64.wrap (a0)), .int .i64 4] rfl (by (try simp only [List.map_toArray, List.map_cons, List.map_nil]); first | done | rfl | (simp only [List.length_drop, List.length_take]; rfl)) ?_; (with_reducible refine (cursor_Of.calls k (IntKind.u64.wrap (a0)) 4 t263 _ A2.out).mono ?_); rintro e w3 ⟨rfl, hb⟩; refine ⟨_, rfl, ?_⟩; have n0_ := Aside0.mk (below_step (by repeat (first | (with_reducible first | exact HB.out | apply below_alloc | apply pw_below_drewN | apply below_drew1) | exact HB.out)) hb); clear HB; have HB := n0_; clear n0_; (try clear hb); (try clear hb2); (try clear hk); (try clear hi)))
  go_ret
  exact ⟨by first | rfl | (simp [errW_none, errW_some] <;> rfl) | (simp [*, errW_none, errW_some] <;> rfl), by repeat (first | (with_reducible first | exact HB.out | apply below_alloc | apply pw_below_drewN | apply below_drew1) | exact HB.out)⟩
end Go.Proofs.Ytdooampgkiodjaa.P
