/- Written by a program of this session (wip/print2: a patched copy of a printer), not by print.sh: Lean functions with the answers of the Go functions, and the proofs of that; no condition beside those that stand in each theorem. -/
import Derived.Test.YtdlcihbfdbdbbaaPx0
import Derived.Test.YtdlcihbfdbdbbaaPx2
import Derived.Test.YtdlcihbfdbdbbaaPx3
namespace Go.Proofs.Ytdlcihbfdbdbbaa.P
open Go.RowKit Go.Proofs.YtdlcihbfdbdbbaaW.PrintWords Go.Proofs.YtdlcihbfdbdbbaaW.PrintLast Go.Proofs.YtdlcihbfdbdbbaaW.PrintMore
attribute [local go_sem] max2_int min2_int max_two min_two max_three min_three max_four min_four   -- for this text's walks alone
set_option linter.unusedVariables false
set_option linter.unusedSimpArgs false

/-! ### extra_Parse: function 8 -/
mutual
def extra_Parse.l0 : Nat → List (S38) → ByteArray → Int → Int → Option ((List (S38)) × Int)
  | 0, _, _, _, _ => none
  | k + 1, x5, x111000, x111001, x111002 => (cursor_Cursor_Left.f x111000 x111001 x111002).bind fun bt111 => (if bt111.1 > 0 then ((cursor_Cursor_Err.f bt111.2.1 bt111.2.2.1 bt111.2.2.2).bind fun bt115 => (extra_Parse.j1 k x5 (bt115.1 == 0) bt115.2.1 bt115.2.2.1 bt115.2.2.2)) else (extra_Parse.j1 k x5 false bt111.2.1 bt111.2.2.1 bt111.2.2.2))
def extra_Parse.j1 : Nat → List (S38) → Bool → ByteArray → Int → Int → Option ((List (S38)) × Int)
  | 0, _, _, _, _, _ => none
  | k + 1, x5, x19, x111000, x111001, x111002 => if x19 = true then ((cursor_Cursor_Two.f k x111000 x111001 x111002).bind fun bt119 => ((cursor_Cursor_Two.f k bt119.2.1 bt119.2.2.1 bt119.2.2.2).bind fun bt124 => ((cursor_Cursor_Take.f bt124.2.1 bt124.2.2.1 bt124.2.2.2 (wrap64 (bt124.1))).bind fun bt128 => (if x5.length < 5864062014805 then (extra_Parse.l0 k (x5 ++ [(⟨bt119.1, bt128.1⟩ : S38)]) bt128.2.1 bt128.2.2.1 bt128.2.2.2) else (none))))) else ((cursor_Cursor_Err.f x111000 x111001 x111002).bind fun bt135 => (if bt135.1 = 0 then (some (x5, 0)) else (some (([] : List (S38)), 24))))
end
def extra_Parse.f (k : Nat) (a0 : ByteArray) : Option ((List (S38)) × Int) := if (a0.size : Int) > 65535 then (some (([] : List (S38)), 5)) else ((cursor_Over.f a0).bind fun bt107 => (extra_Parse.l0 k ([] : List (S38)) bt107.1 bt107.2.1 bt107.2.2))
theorem extra_Parse.mono_l : ∀ k, (∀ y0 y1 y2 y3, LeO (extra_Parse.l0 k y0 y1 y2 y3) (extra_Parse.l0 (k + 1) y0 y1 y2 y3)) ∧ (∀ y0 y1 y2 y3 y4, LeO (extra_Parse.j1 k y0 y1 y2 y3 y4) (extra_Parse.j1 (k + 1) y0 y1 y2 y3 y4))
  | 0 => ⟨fun _ _ _ _ r h => by simp [extra_Parse.l0] at h, fun _ _ _ _ _ r h => by simp [extra_Parse.j1] at h⟩
  | k + 1 => by
    obtain ⟨ih0, ih1⟩ := extra_Parse.mono_l k
    refine ⟨?_, ?_⟩
    · intro y0 y1 y2 y3
      unfold extra_Parse.l0
      repeat' first
      | (with_reducible exact ih0 _ _ _ _)
      | (with_reducible exact ih1 _ _ _ _ _)
      | (with_reducible exact cursor_Cursor_Two.mono _ _ _ _)
      | (with_reducible exact LeO.refl _)
      | (with_reducible exact LeO.none _)
      | (with_reducible refine LeO.ite ?_ ?_)
      | (with_reducible refine LeO.bind ?_ (fun _ => ?_))
      | exact ih0 _ _ _ _
      | exact ih1 _ _ _ _ _
      | exact cursor_Cursor_Two.mono _ _ _ _
      | exact LeO.none _
      | refine LeO.ite ?_ ?_
      | refine LeO.bind ?_ (fun _ => ?_)
    · intro y0 y1 y2 y3 y4
      unfold extra_Parse.j1
      repeat' first
      | (with_reducible exact ih0 _ _ _ _)
      | (with_reducible exact ih1 _ _ _ _ _)
      | (with_reducible exact cursor_Cursor_Two.mono _ _ _ _)
      | (with_reducible exact LeO.refl _)
      | (with_reducible exact LeO.none _)
      | (with_reducible refine LeO.ite ?_ ?_)
      | (with_reducible refine LeO.bind ?_ (fun _ => ?_))
      | exact ih0 _ _ _ _
      | exact ih1 _ _ _ _ _
      | exact cursor_Cursor_Two.mono _ _ _ _
      | exact LeO.none _
      | refine LeO.ite ?_ ?_
      | refine LeO.bind ?_ (fun _ => ?_)
theorem extra_Parse.mono : ∀ a0 k, LeO (extra_Parse.f k a0) (extra_Parse.f (k + 1) a0) := by
  intro a0 k
  obtain ⟨ih0, ih1⟩ := extra_Parse.mono_l k
  unfold extra_Parse.f
  repeat' first
      | (with_reducible exact ih0 _ _ _ _)
      | (with_reducible exact ih1 _ _ _ _ _)
      | (with_reducible exact cursor_Cursor_Two.mono _ _ _ _)
      | (with_reducible exact LeO.refl _)
      | (with_reducible exact LeO.none _)
      | (with_reducible refine LeO.ite ?_ ?_)
      | (with_reducible refine LeO.bind ?_ (fun _ => ?_))
      | exact ih0 _ _ _ _
      | exact ih1 _ _ _ _ _
      | exact cursor_Cursor_Two.mono _ _ _ _
      | exact LeO.none _
      | refine LeO.ite ?_ ?_
      | refine LeO.bind ?_ (fun _ => ?_)
set_option maxHeartbeats 8000000 in
set_option maxRecDepth 100000 in
theorem extra_Parse.calls (k : Nat) (a0 : ByteArray) (r1 : List (S38)) (r2 : Int) (w : World) (h : extra_Parse.f k a0 = some (r1, r2)) :
    Calls Try.prog 8 #[.string a0] w fun e w' => ∃ v0_ : Value, e = .returned (.tuple #[v0_, .int .i64 r2]) ∧ Kd.R k38 38 w' w.heap.size (fun _ => True) v0_ r1 ∧ Below w.heap.size w w' := by
  have hu38 := Try.underlying38
  have HB := Aside0.mk (Below.refl w.heap.size w)
  have H : (if (a0.size : Int) > 65535 then (some (([] : List (S38)), 5)) else ((cursor_Over.f a0).bind fun bt107 => (extra_Parse.l0 k ([] : List (S38)) bt107.1 bt107.2.1 bt107.2.2))) = some (r1, r2) := h
  clear h
  by_cases c2 : (a0.size : Int) > 65535
  · rw [if_pos c2] at H
    have c2b0 : decide (65535 < (a0.size : Int)) = true := decide_eq_true c2
    have c2b1 : decide (65535 < a0.size) = true := decide_eq_true (by omega)
    clear c2
    simp only [Option.some.injEq, Prod.mk.injEq] at H
    obtain ⟨rfl, rfl⟩ := H
    go_enter Try.func8, Try.ntmps8
    go_wp2
    go_ret2
    exact ⟨_, by first | rfl | (simp [errW_none, errW_some] <;> rfl) | (simp [*, errW_none, errW_some] <;> rfl), by first | exact Kd.R_nil _ _ _ _ _ | exact Kd.N_nil _ _ _ _ _ | exact Kd.V_nil _ _ _ _ _ | exact Kd.Q_nil _ _ _ _ _ | exact Kd.S_nil _ _ _ _ _, by repeat (first | (with_reducible first | exact HB.out | apply below_alloc | apply pw_below_drewN | apply below_drew1) | exact HB.out)⟩
  · rw [if_neg c2] at H
    have c2b0 : decide (65535 < (a0.size : Int)) = false := decide_eq_false c2
    have c2b1 : decide (65535 < a0.size) = false := decide_eq_false (by omega)
    clear c2
    replace H := Option.bind_eq_some_iff.mp H
    obtain ⟨⟨t107, t108, t109⟩, A30, H⟩ := H
    replace H : (extra_Parse.l0 k ([] : List (S38)) t107 t108 t109) = some (r1, r2) := H
    have A3 := Aside0.mk A30
    clear A30
    have H' := Aside0.mk H
    clear H
    go_enter Try.func8, Try.ntmps8
    go_wp2_with (first | ((with_reducible refine gate_callee (f := 21) rfl ?_); refine goesL_ (some 11) rfl rfl Try.func21 (by kernel_rfl) rfl #[.string a0] rfl (by (try simp only [List.map_toArray, List.map_cons, List.map_nil]); first | done | rfl | (simp only [List.length_drop, List.length_take]; rfl)) ?_; (with_reducible refine (cursor_Over.calls a0 t107 t108 t109 w _ ?side1 A3.out).mono ?_); (case side1 => repeat (first | (with_reducible first | exact HB.out | apply below_alloc | apply pw_below_drewN | apply below_drew1) | exact HB.out)); rintro e w4 ⟨g110, rfl, hi, hb, hb2⟩; refine ⟨_, rfl, ?_⟩; have n0_ := Aside0.mk (hb); have n1_ := Aside0.mk (hi); clear HB; have HB := n0_; have HI110 := n1_; clear n0_ n1_; (try clear hb); (try clear hb2); (try clear hk); (try clear hi)))
    go_loopg [5] k (fun kq v5 w' => ∃ (x5_1 : List (S38)) (x111000_1 : ByteArray) (x111001_1 : Int) (x111002_1 : Int), Aside0 (extra_Parse.l0 kq x5_1 x111000_1 x111001_1 x111002_1 = some (r1, r2)) ∧ Aside0 (kq ≤ k) ∧ Aside0 (Kd.R k38 38 w' w.heap.size (fun _ => True) v5 x5_1) ∧ Aside0 (IsS74 w w' g110 x111000_1 x111001_1 x111002_1) ∧ Aside0 (Below w.heap.size w w'))
    case atStart => exact ⟨(([] : List (S38))), (t107), (t108), (t109), H', ⟨Nat.le_refl _⟩, ⟨by first | exact Kd.R_nil _ _ _ _ _ | exact Kd.N_nil _ _ _ _ _ | exact Kd.V_nil _ _ _ _ _ | exact Kd.Q_nil _ _ _ _ _ | exact Kd.S_nil _ _ _ _ _⟩, ⟨by repeat (first | (with_reducible first | exact HI110.out | apply IsS74.alloc | apply IsS74.drewN | apply IsS74.drew | apply IsS74.set_0 | apply IsS74.set_1 | apply IsS74.set_2) | exact HI110.out)⟩, ⟨by repeat (first | (with_reducible first | exact HB.out | apply below_alloc | apply pw_below_drewN | apply below_drew1 | refine below_set ?_ (IsS74.ge HI110.out)) | exact HB.out)⟩⟩
    case round =>
      clear H'
      try clear c2
      try clear c2b0
      try clear c2b1
      try clear p2
      obtain ⟨x5_1, x111000_1, x111001_1, x111002_1, HA, HK1, HO_5, HI110, HB⟩ := hrel
      cases gk with
      | zero => exact absurd HA.out (by simp [extra_Parse.l0])
      | succ k1 =>
        have H := HA.out
        clear HA
        simp only [extra_Parse.l0] at H
        have HC5 := Aside0.mk H
        clear H
        go_upto_region 5 with (fail)
        go_cut [19] (fun v19 wc => ∃ (kq : Nat) (x19_4 : Bool) (x111000_4 : ByteArray) (x111001_4 : Int) (x111002_4 : Int), v19 = .bool x19_4 ∧ Aside0 (extra_Parse.j1 kq x5_1 x19_4 x111000_4 x111001_4 x111002_4 = some (r1, r2)) ∧ Aside0 (kq ≤ k1) ∧ Aside0 (Kd.R k38 38 wc w.heap.size (fun _ => True) u5 x5_1) ∧ Aside0 (IsS74 w wc g110 x111000_4 x111001_4 x111002_4) ∧ Aside0 (Below w.heap.size w wc))
        case first =>
          have H := HC5.out
          clear HC5
          replace H := Option.bind_eq_some_iff.mp H
          obtain ⟨⟨t111, t112, t113, t114⟩, A60, H⟩ := H
          replace H : (if t111 > 0 then ((cursor_Cursor_Err.f t112 t113 t114).bind fun bt115 => (extra_Parse.j1 k1 x5_1 (bt115.1 == 0) bt115.2.1 bt115.2.2.1 bt115.2.2.2)) else (extra_Parse.j1 k1 x5_1 false t112 t113 t114)) = some (r1, r2) := H
          have A6 := Aside0.mk A60
          clear A60
          by_cases c7 : t111 > 0
          · rw [if_pos c7] at H
            have c7b0 : decide (0 < t111) = true := decide_eq_true c7
            clear c7
            (first | rw [c7b0] | (simp only [i64_w, i32_w]; rw [c7b0]) | skip)
            replace H := Option.bind_eq_some_iff.mp H
            obtain ⟨⟨t115, t116, t117, t118⟩, A80, H⟩ := H
            replace H : (extra_Parse.j1 k1 x5_1 (t115 == 0) t116 t117 t118) = some (r1, r2) := H
            have A8 := Aside0.mk A80
            clear A80
            have H' := Aside0.mk H
            clear H
            go_wp2_with (first | ((with_reducible refine gate_callee (f := 22) rfl ?_); refine goesL_ (some 13) rfl rfl Try.func22 (by kernel_rfl) rfl #[.pointer (some ⟨g110, 0, none⟩)] rfl (by (try simp only [List.map_toArray, List.map_cons, List.map_nil]); first | done | rfl | (simp only [List.length_drop, List.length_take]; rfl)) ?_; (with_reducible refine (cursor_Cursor_Left.calls g110 x111000_1 x111001_1 x111002_1 t111 t112 t113 t114 w _ ?side1 ?side2 A6.out).mono ?_); (case side1 => repeat (first | (with_reducible first | exact HI110.out | apply IsS74.alloc | apply IsS74.drewN | apply IsS74.drew | apply IsS74.set_0 | apply IsS74.set_1 | apply IsS74.set_2) | exact HI110.out)); (case side2 => repeat (first | (with_reducible first | exact HB.out | apply below_alloc | apply pw_below_drewN | apply below_drew1 | refine below_set ?_ (IsS74.ge HI110.out)) | exact HB.out)); rintro e w9 ⟨rfl, hi, hb, hk⟩; refine ⟨_, rfl, ?_⟩; have n0_ := Aside0.mk (Kd.R_mono (Kd.R_keep (IsS74.apart (show IsS74 w _ g110 x111000_1 x111001_1 x111002_1 from by repeat (first | (with_reducible first | exact HI110.out | apply IsS74.alloc | apply IsS74.drewN | apply IsS74.drew | apply IsS74.set_0 | apply IsS74.set_1 | apply IsS74.set_2) | exact HI110.out)) (by (with_reducible repeat (first | apply Kd.R_alloc | apply Kd.R_drewN | apply Kd.R_drew)); exact HO_5.out) (by decide)) hk (fun _ h => h.2)) (fun _ h => h.1)); have n1_ := Aside0.mk (hb); have n2_ := Aside0.mk (hi); clear HO_5; clear HB; clear HI110; have HO_5 := n0_; have HB := n1_; have HI110 := n2_; clear n0_ n1_ n2_; (try clear hb); (try clear hb2); (try clear hk); (try clear hi)) | (go_at_call 23; (with_reducible refine (cursor_Cursor_Err.calls g110 t112 t113 t114 t115 t116 t117 t118 w _ ?side1 ?side2 A8.out).mono ?_); (case side1 => repeat (first | (with_reducible first | exact HI110.out | apply IsS74.alloc | apply IsS74.drewN | apply IsS74.drew | apply IsS74.set_0 | apply IsS74.set_1 | apply IsS74.set_2) | exact HI110.out)); (case side2 => repeat (first | (with_reducible first | exact HB.out | apply below_alloc | apply pw_below_drewN | apply below_drew1 | refine below_set ?_ (IsS74.ge HI110.out)) | exact HB.out)); rintro e w10 ⟨rfl, hi, hb, hk⟩; have n0_ := Aside0.mk (Kd.R_mono (Kd.R_keep (IsS74.apart (show IsS74 w _ g110 t112 t113 t114 from by repeat (first | (with_reducible first | exact HI110.out | apply IsS74.alloc | apply IsS74.drewN | apply IsS74.drew | apply IsS74.set_0 | apply IsS74.set_1 | apply IsS74.set_2) | exact HI110.out)) (by (with_reducible repeat (first | apply Kd.R_alloc | apply Kd.R_drewN | apply Kd.R_drew)); exact HO_5.out) (by decide)) hk (fun _ h => h.2)) (fun _ h => h.1)); have n1_ := Aside0.mk (hb); have n2_ := Aside0.mk (hi); clear HO_5; clear HB; clear HI110; have HO_5 := n0_; have HB := n1_; have HI110 := n2_; clear n0_ n1_ n2_; (try clear hb); (try clear hb2); (try clear hk); (try clear hi)))
            go_meet
            case rel => exact ⟨_, ((t115 == 0)), (t116), (t117), (t118), (by first | rfl | (simp; done) | (simp [*]; done)), H', ⟨by have := HK1.out; first | omega | exact Nat.le_refl _⟩, ⟨by (with_reducible repeat (first | apply Kd.R_alloc | apply Kd.R_drewN | apply Kd.R_drew)); exact HO_5.out⟩, ⟨by repeat (first | (with_reducible first | exact HI110.out | apply IsS74.alloc | apply IsS74.drewN | apply IsS74.drew | apply IsS74.set_0 | apply IsS74.set_1 | apply IsS74.set_2) | exact HI110.out)⟩, ⟨by repeat (first | (with_reducible first | exact HB.out | apply below_alloc | apply pw_below_drewN | apply below_drew1 | refine below_set ?_ (IsS74.ge HI110.out)) | exact HB.out)⟩⟩
          · rw [if_neg c7] at H
            have c7b0 : decide (0 < t111) = false := decide_eq_false c7
            clear c7
            (first | rw [c7b0] | (simp only [i64_w, i32_w]; rw [c7b0]) | skip)
            have H' := Aside0.mk H
            clear H
            go_wp2_with (first | ((with_reducible refine gate_callee (f := 22) rfl ?_); refine goesL_ (some 13) rfl rfl Try.func22 (by kernel_rfl) rfl #[.pointer (some ⟨g110, 0, none⟩)] rfl (by (try simp only [List.map_toArray, List.map_cons, List.map_nil]); first | done | rfl | (simp only [List.length_drop, List.length_take]; rfl)) ?_; (with_reducible refine (cursor_Cursor_Left.calls g110 x111000_1 x111001_1 x111002_1 t111 t112 t113 t114 w _ ?side1 ?side2 A6.out).mono ?_); (case side1 => repeat (first | (with_reducible first | exact HI110.out | apply IsS74.alloc | apply IsS74.drewN | apply IsS74.drew | apply IsS74.set_0 | apply IsS74.set_1 | apply IsS74.set_2) | exact HI110.out)); (case side2 => repeat (first | (with_reducible first | exact HB.out | apply below_alloc | apply pw_below_drewN | apply below_drew1 | refine below_set ?_ (IsS74.ge HI110.out)) | exact HB.out)); rintro e w11 ⟨rfl, hi, hb, hk⟩; refine ⟨_, rfl, ?_⟩; have n0_ := Aside0.mk (Kd.R_mono (Kd.R_keep (IsS74.apart (show IsS74 w _ g110 x111000_1 x111001_1 x111002_1 from by repeat (first | (with_reducible first | exact HI110.out | apply IsS74.alloc | apply IsS74.drewN | apply IsS74.drew | apply IsS74.set_0 | apply IsS74.set_1 | apply IsS74.set_2) | exact HI110.out)) (by (with_reducible repeat (first | apply Kd.R_alloc | apply Kd.R_drewN | apply Kd.R_drew)); exact HO_5.out) (by decide)) hk (fun _ h => h.2)) (fun _ h => h.1)); have n1_ := Aside0.mk (hb); have n2_ := Aside0.mk (hi); clear HO_5; clear HB; clear HI110; have HO_5 := n0_; have HB := n1_; have HI110 := n2_; clear n0_ n1_ n2_; (try clear hb); (try clear hb2); (try clear hk); (try clear hi)))
            go_meet
            case rel => exact ⟨_, (false), (t112), (t113), (t114), (by first | rfl | (simp; done) | (simp [*]; done)), H', ⟨by have := HK1.out; first | omega | exact Nat.le_refl _⟩, ⟨by (with_reducible repeat (first | apply Kd.R_alloc | apply Kd.R_drewN | apply Kd.R_drew)); exact HO_5.out⟩, ⟨by repeat (first | (with_reducible first | exact HI110.out | apply IsS74.alloc | apply IsS74.drewN | apply IsS74.drew | apply IsS74.set_0 | apply IsS74.set_1 | apply IsS74.set_2) | exact HI110.out)⟩, ⟨by repeat (first | (with_reducible first | exact HB.out | apply below_alloc | apply pw_below_drewN | apply below_drew1 | refine below_set ?_ (IsS74.ge HI110.out)) | exact HB.out)⟩⟩
        case rest =>
          clear HC5
          try clear c2
          try clear c2b0
          try clear c2b1
          try clear p2
          try clear c7
          try clear c7b0
          try clear c8
          try clear p2
          obtain ⟨kq, x19_4, x111000_4, x111001_4, x111002_4, rfl, HA, HJ4, HO_5, HI110, HB⟩ := hcut
          cases kq with
          | zero => exact absurd HA.out (by simp [extra_Parse.j1])
          | succ kj4 =>
            have H := HA.out
            clear HA
            simp only [extra_Parse.j1] at H
            by_cases c12 : x19_4 = true
            · subst c12
              have H1 : ((cursor_Cursor_Two.f kj4 x111000_4 x111001_4 x111002_4).bind fun bt119 => ((cursor_Cursor_Two.f kj4 bt119.2.1 bt119.2.2.1 bt119.2.2.2).bind fun bt124 => ((cursor_Cursor_Take.f bt124.2.1 bt124.2.2.1 bt124.2.2.2 (wrap64 (bt124.1))).bind fun bt128 => (if x5_1.length < 5864062014805 then (extra_Parse.l0 kj4 (x5_1 ++ [(⟨bt119.1, bt128.1⟩ : S38)]) bt128.2.1 bt128.2.2.1 bt128.2.2.2) else (none))))) = some (r1, r2) := by rw [if_pos rfl] at H; exact H
              clear H
              have H := H1
              clear H1
              replace H := Option.bind_eq_some_iff.mp H
              obtain ⟨⟨t119, t120, t121, t122⟩, A130, H⟩ := H
              replace H : ((cursor_Cursor_Two.f kj4 t120 t121 t122).bind fun bt124 => ((cursor_Cursor_Take.f bt124.2.1 bt124.2.2.1 bt124.2.2.2 (wrap64 (bt124.1))).bind fun bt128 => (if x5_1.length < 5864062014805 then (extra_Parse.l0 kj4 (x5_1 ++ [(⟨t119, bt128.1⟩ : S38)]) bt128.2.1 bt128.2.2.1 bt128.2.2.2) else (none)))) = some (r1, r2) := H
              have A13 := Aside0.mk A130
              clear A130
              replace H := Option.bind_eq_some_iff.mp H
              obtain ⟨⟨t124, t125, t126, t127⟩, A140, H⟩ := H
              replace H : ((cursor_Cursor_Take.f t125 t126 t127 (wrap64 (t124))).bind fun bt128 => (if x5_1.length < 5864062014805 then (extra_Parse.l0 kj4 (x5_1 ++ [(⟨t119, bt128.1⟩ : S38)]) bt128.2.1 bt128.2.2.1 bt128.2.2.2) else (none))) = some (r1, r2) := H
              have A14 := Aside0.mk A140
              clear A140
              replace H := Option.bind_eq_some_iff.mp H
              obtain ⟨⟨t128, t129, t130, t131⟩, A150, H⟩ := H
              replace H : (if x5_1.length < 5864062014805 then (extra_Parse.l0 kj4 (x5_1 ++ [(⟨t119, t128⟩ : S38)]) t129 t130 t131) else (none)) = some (r1, r2) := H
              have A15 := Aside0.mk A150
              clear A150
              by_cases c16 : x5_1.length < 5864062014805
              · rw [if_pos c16] at H
                have LMc16 := Aside0.mk c16
                clear c16
                obtain ⟨y132, hy132⟩ : ∃ y_ : List (S38), y_ = (x5_1 ++ [(⟨t119, t128⟩ : S38)]) := ⟨_, rfl⟩
                replace H : (extra_Parse.l0 kj4 y132 t129 t130 t131) = some (r1, r2) := by first | (rw [hy132]; with_reducible exact H) | (have H2_ := (Option.bind_some _ _).symm.trans H; rw [hy132]; with_reducible exact H2_) | (have H2_ := (Option.bind_some _ _).symm.trans H; with_reducible exact H2_) | with_reducible exact H | (rw [hy132]; exact H) | exact H
                have Ny132 := Aside0.mk hy132
                clear hy132
                have H' := Aside0.mk H
                clear H
                go_wp2_with (first | ((with_reducible refine gate_callee (f := 24) rfl ?_); refine goesL_ (some 21) rfl rfl Try.func24 (by kernel_rfl) rfl #[.pointer (some ⟨g110, 0, none⟩)] rfl (by (try simp only [List.map_toArray, List.map_cons, List.map_nil]); first | done | rfl | (simp only [List.length_drop, List.length_take]; rfl)) ?_; (with_reducible refine (cursor_Cursor_Two.calls kj4 g110 x111000_4 x111001_4 x111002_4 t119 t120 t121 t122 w _ ?side1 ?side2 A13.out).mono ?_); (case side1 => repeat (first | (with_reducible first | exact HI110.out | apply IsS74.alloc | apply IsS74.drewN | apply IsS74.drew | apply IsS74.set_0 | apply IsS74.set_1 | apply IsS74.set_2) | exact HI110.out)); (case side2 => repeat (first | (with_reducible first | exact HB.out | apply below_alloc | apply pw_below_drewN | apply below_drew1 | refine below_set ?_ (IsS74.ge HI110.out)) | exact HB.out)); rintro e w17 ⟨rfl, hi, hb, hk⟩; refine ⟨_, rfl, ?_⟩; have n0_ := Aside0.mk (Kd.R_mono (Kd.R_keep (IsS74.apart (show IsS74 w _ g110 x111000_4 x111001_4 x111002_4 from by repeat (first | (with_reducible first | exact HI110.out | apply IsS74.alloc | apply IsS74.drewN | apply IsS74.drew | apply IsS74.set_0 | apply IsS74.set_1 | apply IsS74.set_2) | exact HI110.out)) (by (with_reducible repeat (first | apply Kd.R_alloc | apply Kd.R_drewN | apply Kd.R_drew)); exact HO_5.out) (by decide)) hk (fun _ h => h.2)) (fun _ h => h.1)); have n1_ := Aside0.mk (hb); have n2_ := Aside0.mk (hi); clear HO_5; clear HB; clear HI110; have HO_5 := n0_; have HB := n1_; have HI110 := n2_; clear n0_ n1_ n2_; (try clear hb); (try clear hb2); (try clear hk); (try clear hi)) | ((with_reducible refine gate_dst (N := 6) rfl ?_); refine box_event ?hg (N := 6) ?hd (cs := #[.int .u16 0, .string (⟨#[]⟩ : ByteArray)]) (t := 38) ?hr ?_; (case hd => rfl); (case hg => rfl); (case hr => first | (go_simp; done) | (go_simp; rfl)); intro gb123 hg w18 hbox hb; have n0_ := Aside0.mk (Kd.R_below (Kd.R_elderB (by (with_reducible repeat (first | apply Kd.R_alloc | apply Kd.R_drewN | apply Kd.R_drew)); exact HO_5.out) gb123 (Nat.le_of_eq hg.symm)) hb); have n1_ := Aside0.mk (IsS74.below (by repeat (first | (with_reducible first | exact HI110.out | apply IsS74.alloc | apply IsS74.drewN | apply IsS74.drew | apply IsS74.set_0 | apply IsS74.set_1 | apply IsS74.set_2) | exact HI110.out)) hb); have n2_ := Aside0.mk (below_step (by repeat (first | (with_reducible first | exact HB.out | apply below_alloc | apply pw_below_drewN | apply below_drew1 | refine below_set ?_ (IsS74.ge HI110.out)) | exact HB.out)) hb); have n3_ := Aside0.mk (hbox); have n4_ := Aside0.mk ((by rw [hg]; exact (below_size (by repeat (first | (with_reducible first | exact HB.out | apply below_alloc | apply pw_below_drewN | apply below_drew1 | refine below_set ?_ (IsS74.ge HI110.out)) | exact HB.out))) : w.heap.size ≤ gb123)); have n5_ := Aside0.mk ((by rw [hg]; exact (below_size (by repeat (first | (with_reducible first | exact HB.out | apply below_alloc | apply pw_below_drewN | apply below_drew1 | refine below_set ?_ (IsS74.ge HI110.out)) | exact HB.out))) : w.heap.size ≤ gb123)); have n6_ := Aside0.mk ((by rw [hg]; exact Nat.ne_of_lt (IsS74.lt (show IsS74 w _ g110 t120 t121 t122 from by repeat (first | (with_reducible first | exact HI110.out | apply IsS74.alloc | apply IsS74.drewN | apply IsS74.drew | apply IsS74.set_0 | apply IsS74.set_1 | apply IsS74.set_2) | exact HI110.out))) : g110 ≠ gb123)); have n7_ := Aside0.mk ((by rw [hg]; exact Nat.ne_of_gt (IsS74.lt (show IsS74 w _ g110 t120 t121 t122 from by repeat (first | (with_reducible first | exact HI110.out | apply IsS74.alloc | apply IsS74.drewN | apply IsS74.drew | apply IsS74.set_0 | apply IsS74.set_1 | apply IsS74.set_2) | exact HI110.out))) : gb123 ≠ g110)); clear HO_5; clear HI110; clear HB; have HO_5 := n0_; have HI110 := n1_; have HB := n2_; have BK123 := n3_; have GW123 := n4_; have GE123 := n5_; have NB110_123 := n6_; have NB123_110 := n7_; clear n0_ n1_ n2_ n3_ n4_ n5_ n6_ n7_; clear hb hbox hg; have hnb19 := NB123_110.out; have hnc19 := NB110_123.out; have hcz20_0 : w18.cell? ⟨gb123, 0, none⟩ = some (.int .u16 0) := (blk_cell BK123.out 0).trans rfl; have hcz20_1 : w18.cell? ⟨gb123, 1, none⟩ = some (.string (⟨#[]⟩ : ByteArray)) := (blk_cell BK123.out 1).trans rfl; have hfz20_0 := blk_frozen BK123.out 0; have hfz20_1 := blk_frozen BK123.out 1) | ((with_reducible refine gate_callee (f := 24) rfl ?_); refine goesL_ (some 25) rfl rfl Try.func24 (by kernel_rfl) rfl #[.pointer (some ⟨g110, 0, none⟩)] rfl (by (try simp only [List.map_toArray, List.map_cons, List.map_nil]); first | done | rfl | (simp only [List.length_drop, List.length_take]; rfl)) ?_; (with_reducible refine (cursor_Cursor_Two.calls kj4 g110 t120 t121 t122 t124 t125 t126 t127 w _ ?side1 ?side2 A14.out).mono ?_); (case side1 => repeat (first | (with_reducible first | exact HI110.out | apply IsS74.alloc | apply IsS74.drewN | apply IsS74.drew | apply IsS74.set_0 | apply IsS74.set_1 | apply IsS74.set_2 | refine IsS74.far ?_ NB110_123.out _) | exact HI110.out)); (case side2 => repeat (first | (with_reducible first | exact HB.out | apply below_alloc | apply pw_below_drewN | apply below_drew1 | refine below_set ?_ (IsS74.ge HI110.out) | refine below_set ?_ GE123.out) | exact HB.out)); rintro e w21 ⟨rfl, hi, hb, hk⟩; refine ⟨_, rfl, ?_⟩; have n0_ := Aside0.mk (Kd.R_mono (Kd.R_keep (IsS74.apart (show IsS74 w _ g110 t120 t121 t122 from by repeat (first | (with_reducible first | exact HI110.out | apply IsS74.alloc | apply IsS74.drewN | apply IsS74.drew | apply IsS74.set_0 | apply IsS74.set_1 | apply IsS74.set_2 | refine IsS74.far ?_ NB110_123.out _) | exact HI110.out)) (by (with_reducible repeat (first | apply Kd.R_alloc | apply Kd.R_drewN | apply Kd.R_drew)); exact (Kd.R_mono (Kd.R_far (p := ⟨gb123, 1, none⟩) (Kd.R_far (p := ⟨gb123, 0, none⟩) (Kd.R_mono HO_5.out (fun k_ hk => (⟨hk, hk.2⟩ : _ ∧ k_ ≠ gb123))) (fun _ hk => hk.2) (.int .u16 t119)) (fun _ hk => hk.2) (.string (⟨#[]⟩ : ByteArray))) (fun _ h_ => h_.1))) (by decide)) hk (fun _ h => h.2)) (fun _ h => h.1)); have n1_ := Aside0.mk (KeepBut.blk hk (g' := gb123) (o := .cells #[.int .u16 t119, .string (⟨#[]⟩ : ByteArray)] 38 (0, 0)) (by (with_reducible repeat (first | refine blk_drewN ?_ _ | refine blk_drew ?_ | refine blk_alloc ?_ _)); refine blk_put (cs := #[.int .u16 t119, .string (⟨#[]⟩ : ByteArray)]) ?_ 1 _ rfl; (with_reducible repeat (first | refine blk_drewN ?_ _ | refine blk_drew ?_ | refine blk_alloc ?_ _)); refine blk_put (cs := #[.int .u16 0, .string (⟨#[]⟩ : ByteArray)]) ?_ 0 _ rfl; (with_reducible repeat (first | refine blk_drewN ?_ _ | refine blk_drew ?_ | refine blk_alloc ?_ _)); exact BK123.out) NB123_110.out (by simp)); have n2_ := Aside0.mk (hb); have n3_ := Aside0.mk (hi); clear HO_5; clear BK123; clear HB; clear HI110; have HO_5 := n0_; have BK123 := n1_; have HB := n2_; have HI110 := n3_; clear n0_ n1_ n2_ n3_; (try clear hb); (try clear hb2); (try clear hk); (try clear hi)) | ((with_reducible refine gate_callee (f := 25) rfl ?_); refine goesL_ (some 27) rfl rfl Try.func25 (by kernel_rfl) rfl #[.pointer (some ⟨g110, 0, none⟩), .int .i64 (wrap64 (t124))] rfl (by (try simp only [List.map_toArray, List.map_cons, List.map_nil]); first | done | rfl | (simp only [List.length_drop, List.length_take]; rfl)) ?_; (with_reducible refine (cursor_Cursor_Take.calls g110 t125 t126 t127 (wrap64 (t124)) t128 t129 t130 t131 w _ ?side1 ?side2 A15.out).mono ?_); (case side1 => repeat (first | (with_reducible first | exact HI110.out | apply IsS74.alloc | apply IsS74.drewN | apply IsS74.drew | apply IsS74.set_0 | apply IsS74.set_1 | apply IsS74.set_2 | refine IsS74.far ?_ NB110_123.out _) | exact HI110.out)); (case side2 => repeat (first | (with_reducible first | exact HB.out | apply below_alloc | apply pw_below_drewN | apply below_drew1 | refine below_set ?_ (IsS74.ge HI110.out) | refine below_set ?_ GE123.out) | exact HB.out)); rintro e w22 ⟨rfl, hi, hb, hk⟩; refine ⟨_, rfl, ?_⟩; have n0_ := Aside0.mk (Kd.R_mono (Kd.R_keep (IsS74.apart (show IsS74 w _ g110 t125 t126 t127 from by repeat (first | (with_reducible first | exact HI110.out | apply IsS74.alloc | apply IsS74.drewN | apply IsS74.drew | apply IsS74.set_0 | apply IsS74.set_1 | apply IsS74.set_2 | refine IsS74.far ?_ NB110_123.out _) | exact HI110.out)) (by (with_reducible repeat (first | apply Kd.R_alloc | apply Kd.R_drewN | apply Kd.R_drew)); exact HO_5.out) (by decide)) hk (fun _ h => h.2)) (fun _ h => h.1)); have n1_ := Aside0.mk (KeepBut.blk hk (g' := gb123) (o := .cells #[.int .u16 t119, .string (⟨#[]⟩ : ByteArray)] 38 (0, 0)) (by (with_reducible repeat (first | refine blk_drewN ?_ _ | refine blk_drew ?_ | refine blk_alloc ?_ _)); exact BK123.out) NB123_110.out (by simp)); have n2_ := Aside0.mk (hb); have n3_ := Aside0.mk (hi); clear HO_5; clear BK123; clear HB; clear HI110; have HO_5 := n0_; have BK123 := n1_; have HB := n2_; have HI110 := n3_; clear n0_ n1_ n2_ n3_; (try clear hb); (try clear hb2); (try clear hk); (try clear hi); have hcz23_0 : w22.cell? ⟨gb123, 0, none⟩ = some (.int .u16 t119) := (blk_cell BK123.out 0).trans rfl; have hcz23_1 : w22.cell? ⟨gb123, 1, none⟩ = some (.string (⟨#[]⟩ : ByteArray)) := (blk_cell BK123.out 1).trans rfl; have hfz23_0 := blk_frozen BK123.out 0; have hfz23_1 := blk_frozen BK123.out 1) | ((with_reducible refine gate_builtin (b := .append) (xs := #[.tmp 29, .tmp 31]) rfl ?_); at_builtin; refine Kd.R_append k38 (w0 := w) w.heap.size rfl (.tmp 29) (.tmp 31) 22 38 (.agg #[(.int .u16 0), (.string ⟨#[]⟩)]) 24 rfl Try.underlying22 info38 rfl (by decide) (by omega) u5 x5_1 (⟨t119, t128⟩ : S38) [.int .u16 t119, .string t128] (fun k_ => k_ ≠ gb123) (fun _ => False) rfl (by first | (go_simp; done) | (go_simp; rfl)) ?aP (fun _ hk => hk.elim) ?aF ?aO ?aB ?aS ?aL ?_; (case aP => exact k38_mkM _ _ _ (⟨t119, t128⟩ : S38)); (case aB => exact (by repeat (first | (with_reducible first | exact HB.out | apply below_alloc | apply pw_below_drewN | apply below_drew1 | refine below_set ?_ (IsS74.ge HI110.out) | refine below_set ?_ GE123.out) | exact HB.out))); (case aF => exact (fun k_ hk => Kd.freshB (g := gb123) (o := .cells #[.int .u16 t119, .string t128] 38 (0, 0)) (by (with_reducible repeat (first | refine blk_drewN ?_ _ | refine blk_drew ?_ | refine blk_alloc ?_ _)); refine blk_put (cs := #[.int .u16 t119, .string (⟨#[]⟩ : ByteArray)]) ?_ 1 _ rfl; (with_reducible repeat (first | refine blk_drewN ?_ _ | refine blk_drew ?_ | refine blk_alloc ?_ _)); exact BK123.out) k_ hk)); (case aO => exact (by (with_reducible repeat (first | apply Kd.R_alloc | apply Kd.R_drewN | apply Kd.R_drew)); exact Kd.R_mono (Kd.R_far (p := ⟨gb123, 1, none⟩) (Kd.R_mono HO_5.out (fun k_ hk => (⟨hk, hk.2⟩ : _ ∧ k_ ≠ gb123))) (fun _ hk => hk.2) (.string t128)) (fun _ hk => hk.1.2))); (case aS => exact (below_size (by repeat (first | (with_reducible first | exact HB.out | apply below_alloc | apply pw_below_drewN | apply below_drew1 | refine below_set ?_ (IsS74.ge HI110.out) | refine below_set ?_ GE123.out) | exact HB.out)))); (case aL => have := LMc16.out; omega); intro v133 w24 ho hb hg hat; rw [← Ny132.out] at ho; have n0_ := Aside0.mk (IsS74.grown (show IsS74 w _ g110 t129 t130 t131 from by repeat (first | (with_reducible first | exact HI110.out | apply IsS74.alloc | apply IsS74.drewN | apply IsS74.drew | apply IsS74.set_0 | apply IsS74.set_1 | apply IsS74.set_2 | refine IsS74.far ?_ NB110_123.out _) | exact HI110.out)) hg (IsS74.own_ne HI110.out HO_5.out (by decide))); have n1_ := Aside0.mk (blk_grown (g := gb123) (o := .cells #[.int .u16 t119, .string t128] 38 (0, 0)) (by (with_reducible repeat (first | refine blk_drewN ?_ _ | refine blk_drew ?_ | refine blk_alloc ?_ _)); refine blk_put (cs := #[.int .u16 t119, .string (⟨#[]⟩ : ByteArray)]) ?_ 1 _ rfl; (with_reducible repeat (first | refine blk_drewN ?_ _ | refine blk_drew ?_ | refine blk_alloc ?_ _)); exact BK123.out) hg (Kd.R_away HO_5.out (fun _ hk => hk.2))); have n2_ := Aside0.mk (hb); have n3_ := Aside0.mk (ho); clear HI110; clear BK123; clear HB; clear HO_5; have HI110 := n0_; have BK123 := n1_; have HB := n2_; have HO134 := n3_; clear n0_ n1_ n2_ n3_; clear ho hb hg hat))
                go_roundg kj4
                case measure => have := HK1.out; have := HJ4.out; omega
                case rel => exact ⟨(y132), (t129), (t130), (t131), H', ⟨by have := HK1.out; have := HJ4.out; omega⟩, ⟨by (with_reducible repeat (first | apply Kd.R_alloc | apply Kd.R_drewN | apply Kd.R_drew)); exact Kd.R_mono HO134.out (fun _ hk => trivial)⟩, ⟨by repeat (first | (with_reducible first | exact HI110.out | apply IsS74.alloc | apply IsS74.drewN | apply IsS74.drew | apply IsS74.set_0 | apply IsS74.set_1 | apply IsS74.set_2 | refine IsS74.far ?_ NB110_123.out _) | exact HI110.out)⟩, ⟨by repeat (first | (with_reducible first | exact HB.out | apply below_alloc | apply pw_below_drewN | apply below_drew1 | refine below_set ?_ (IsS74.ge HI110.out) | refine below_set ?_ GE123.out) | exact HB.out)⟩⟩
              · rw [if_neg c16] at H
                exact absurd H (by simp)
            · replace c12 := Bool.eq_false_iff.mpr c12
              subst c12
              have H1 : ((cursor_Cursor_Err.f x111000_4 x111001_4 x111002_4).bind fun bt135 => (if bt135.1 = 0 then (some (x5_1, 0)) else (some (([] : List (S38)), 24)))) = some (r1, r2) := by rw [if_neg (show ¬ (false = true) by decide)] at H; exact H
              clear H
              have H := H1
              clear H1
              replace H := Option.bind_eq_some_iff.mp H
              obtain ⟨⟨t135, t136, t137, t138⟩, A250, H⟩ := H
              replace H : (if t135 = 0 then (some (x5_1, 0)) else (some (([] : List (S38)), 24))) = some (r1, r2) := H
              have A25 := Aside0.mk A250
              clear A250
              by_cases c26 : t135 = 0
              · rw [if_pos c26] at H
                have c26b0 : (t135 == 0) = true := beq_iff_eq.mpr c26
                have c26b1 : (t135 != 0) = false := bne_eq_false_iff_eq.mpr c26
                clear c26
                simp only [Option.some.injEq, Prod.mk.injEq] at H
                obtain ⟨rfl, rfl⟩ := H
                go_wp2_with (first | ((with_reducible refine gate_callee (f := 23) rfl ?_); refine goesL_ (some 34) rfl rfl Try.func23 (by kernel_rfl) rfl #[.pointer (some ⟨g110, 0, none⟩)] rfl (by (try simp only [List.map_toArray, List.map_cons, List.map_nil]); first | done | rfl | (simp only [List.length_drop, List.length_take]; rfl)) ?_; (with_reducible refine (cursor_Cursor_Err.calls g110 x111000_4 x111001_4 x111002_4 t135 t136 t137 t138 w _ ?side1 ?side2 A25.out).mono ?_); (case side1 => repeat (first | (with_reducible first | exact HI110.out | apply IsS74.alloc | apply IsS74.drewN | apply IsS74.drew | apply IsS74.set_0 | apply IsS74.set_1 | apply IsS74.set_2) | exact HI110.out)); (case side2 => repeat (first | (with_reducible first | exact HB.out | apply below_alloc | apply pw_below_drewN | apply below_drew1 | refine below_set ?_ (IsS74.ge HI110.out)) | exact HB.out)); rintro e w27 ⟨rfl, hi, hb, hk⟩; refine ⟨_, rfl, ?_⟩; have n0_ := Aside0.mk (Kd.R_mono (Kd.R_keep (IsS74.apart (show IsS74 w _ g110 x111000_4 x111001_4 x111002_4 from by repeat (first | (with_reducible first | exact HI110.out | apply IsS74.alloc | apply IsS74.drewN | apply IsS74.drew | apply IsS74.set_0 | apply IsS74.set_1 | apply IsS74.set_2) | exact HI110.out)) (by (with_reducible repeat (first | apply Kd.R_alloc | apply Kd.R_drewN | apply Kd.R_drew)); exact HO_5.out) (by decide)) hk (fun _ h => h.2)) (fun _ h => h.1)); have n1_ := Aside0.mk (hb); have n2_ := Aside0.mk (hi); clear HO_5; clear HB; clear HI110; have HO_5 := n0_; have HB := n1_; have HI110 := n2_; clear n0_ n1_ n2_; (try clear hb); (try clear hb2); (try clear hk); (try clear hi)))
                go_ret2
                exact ⟨_, by first | rfl | (simp [errW_none, errW_some] <;> rfl) | (simp [*, errW_none, errW_some] <;> rfl), by (with_reducible repeat (first | apply Kd.R_alloc | apply Kd.R_drewN | apply Kd.R_drew)); exact HO_5.out, by repeat (first | (with_reducible first | exact HB.out | apply below_alloc | apply pw_below_drewN | apply below_drew1 | refine below_set ?_ (IsS74.ge HI110.out)) | exact HB.out)⟩
              · rw [if_neg c26] at H
                have c26b0 : (t135 == 0) = false := beq_eq_false_iff_ne.mpr c26
                have c26b1 : (t135 != 0) = true := bne_iff_ne.mpr c26
                simp only [Option.some.injEq, Prod.mk.injEq] at H
                obtain ⟨rfl, rfl⟩ := H
                go_wp2_with (first | ((with_reducible refine gate_callee (f := 23) rfl ?_); refine goesL_ (some 34) rfl rfl Try.func23 (by kernel_rfl) rfl #[.pointer (some ⟨g110, 0, none⟩)] rfl (by (try simp only [List.map_toArray, List.map_cons, List.map_nil]); first | done | rfl | (simp only [List.length_drop, List.length_take]; rfl)) ?_; (with_reducible refine (cursor_Cursor_Err.calls g110 x111000_4 x111001_4 x111002_4 t135 t136 t137 t138 w _ ?side1 ?side2 A25.out).mono ?_); (case side1 => repeat (first | (with_reducible first | exact HI110.out | apply IsS74.alloc | apply IsS74.drewN | apply IsS74.drew | apply IsS74.set_0 | apply IsS74.set_1 | apply IsS74.set_2) | exact HI110.out)); (case side2 => repeat (first | (with_reducible first | exact HB.out | apply below_alloc | apply pw_below_drewN | apply below_drew1 | refine below_set ?_ (IsS74.ge HI110.out)) | exact HB.out)); rintro e w28 ⟨rfl, hi, hb, hk⟩; refine ⟨_, rfl, ?_⟩; have n0_ := Aside0.mk (Kd.R_mono (Kd.R_keep (IsS74.apart (show IsS74 w _ g110 x111000_4 x111001_4 x111002_4 from by repeat (first | (with_reducible first | exact HI110.out | apply IsS74.alloc | apply IsS74.drewN | apply IsS74.drew | apply IsS74.set_0 | apply IsS74.set_1 | apply IsS74.set_2) | exact HI110.out)) (by (with_reducible repeat (first | apply Kd.R_alloc | apply Kd.R_drewN | apply Kd.R_drew)); exact HO_5.out) (by decide)) hk (fun _ h => h.2)) (fun _ h => h.1)); have n1_ := Aside0.mk (hb); have n2_ := Aside0.mk (hi); clear HO_5; clear HB; clear HI110; have HO_5 := n0_; have HB := n1_; have HI110 := n2_; clear n0_ n1_ n2_; (try clear hb); (try clear hb2); (try clear hk); (try clear hi)))
                go_ret2
                exact ⟨_, by first | rfl | (simp [errW_none, errW_some] <;> rfl) | (simp [*, errW_none, errW_some] <;> rfl), by first | exact Kd.R_nil _ _ _ _ _ | exact Kd.N_nil _ _ _ _ _ | exact Kd.V_nil _ _ _ _ _ | exact Kd.Q_nil _ _ _ _ _ | exact Kd.S_nil _ _ _ _ _, by repeat (first | (with_reducible first | exact HB.out | apply below_alloc | apply pw_below_drewN | apply below_drew1 | refine below_set ?_ (IsS74.ge HI110.out)) | exact HB.out)⟩

end Go.Proofs.Ytdlcihbfdbdbbaa.P
