/- Written by a program of this session (wip/print2: a patched copy of a printer), not by print.sh: Lean functions with the answers of the Go functions, and the proofs of that; no condition beside those that stand in each theorem. -/
import Derived.Test.YtdlcihbfdbdbbaaPx0
import Derived.Test.YtdlcihbfdbdbbaaPx4
import Derived.Test.YtdlcihbfdbdbbaaPx5
import Derived.Test.YtdlcihbfdbdbbaaPx7
import Derived.Test.YtdlcihbfdbdbbaaPx8
import Derived.Test.YtdlcihbfdbdbbaaPx9
import Derived.Test.YtdlcihbfdbdbbaaPx11
import Derived.Test.YtdlcihbfdbdbbaaMg1
namespace Go.Proofs.Ytdlcihbfdbdbbaa.P
open Go.RowKit Go.Proofs.YtdlcihbfdbdbbaaW.PrintWords Go.Proofs.YtdlcihbfdbdbbaaW.PrintLast Go.Proofs.YtdlcihbfdbdbbaaW.PrintMore
attribute [local go_sem] max2_int min2_int max_two min_two max_three min_three max_four min_four   -- for this text's walks alone
set_option linter.unusedVariables false
set_option linter.unusedSimpArgs false

/-! ### portmanteaulaw13_ExtraBack: function 5 -/
mutual
def portmanteaulaw13_ExtraBack.j0 : Nat → ByteArray → List (S38) → Bool → Int → ByteArray → Option (Bool)
  | 0, _, _, _, _, _ => none
  | k + 1, x0, x1, x27, x201000, x201001 => if x27 = true then (some true) else ((extra_Print.f x1).bind fun bt203 => (if bt203.2 = 0 then ((extra_Parse.f k bt203.1).bind fun bt205 => (if bt205.2 = 0 then ((portmanteauref13_Same.f k x1 bt205.1).bind fun t209 => (if t209 = true then (portmanteaulaw13_ExtraBack.j1 k x0 x1 x201000 x201001) else (some false))) else (some false))) else (portmanteaulaw13_ExtraBack.j1 k x0 x1 x201000 x201001)))
def portmanteaulaw13_ExtraBack.j1 : Nat → ByteArray → List (S38) → Int → ByteArray → Option (Bool)
  | 0, _, _, _, _ => none
  | k + 1, x0, x1, x201000, x201001 => (extra_Parse.f k x0).bind fun bt210 => ((extra_Print.f bt210.1).bind fun bt214 => (if bt210.2 = 0 then (if bt214.2 = 0 then (portmanteaulaw13_ExtraBack.j2 k x1 (bt214.1.toList != x0.toList) x201000 x201001) else (portmanteaulaw13_ExtraBack.j2 k x1 true x201000 x201001)) else (portmanteaulaw13_ExtraBack.j2 k x1 false x201000 x201001)))
def portmanteaulaw13_ExtraBack.j2 : Nat → List (S38) → Bool → Int → ByteArray → Option (Bool)
  | 0, _, _, _, _ => none
  | k + 1, x1, x68, x201000, x201001 => if x68 = true then (some false) else ((extra_Put.f k x1 x201000 x201001).bind fun t216 => ((extra_Find.f t216 x201000).bind fun bt219 => (if bt219.2 = true then (if bt219.1.toList = x201001.toList then ((extra_Without.f k t216 (([x201000] : List Int))).bind fun t224 => (some ((t224.length : Int) == (wrap64 ((t216.length : Int) - 1))))) else (some false)) else (some false))))
end
def portmanteaulaw13_ExtraBack.f (k : Nat) (a0 : ByteArray) (l1 : List (S38)) (a2_0 : Int) (a2_1 : ByteArray) : Option (Bool) := (portmanteaulaw13_awake.f k).bind fun t201 => (if t201 = true then (if (a0.size : Int) > 70000 then (portmanteaulaw13_ExtraBack.j0 k a0 l1 true a2_0 a2_1) else ((portmanteaulaw13_few.f k l1).bind fun t202 => (portmanteaulaw13_ExtraBack.j0 k a0 l1 (!t202) a2_0 a2_1))) else (some false))
theorem portmanteaulaw13_ExtraBack.mono_l : ∀ k, (∀ y0 y1 y2 y3 y4, LeO (portmanteaulaw13_ExtraBack.j0 k y0 y1 y2 y3 y4) (portmanteaulaw13_ExtraBack.j0 (k + 1) y0 y1 y2 y3 y4)) ∧ (∀ y0 y1 y2 y3, LeO (portmanteaulaw13_ExtraBack.j1 k y0 y1 y2 y3) (portmanteaulaw13_ExtraBack.j1 (k + 1) y0 y1 y2 y3)) ∧ (∀ y0 y1 y2 y3, LeO (portmanteaulaw13_ExtraBack.j2 k y0 y1 y2 y3) (portmanteaulaw13_ExtraBack.j2 (k + 1) y0 y1 y2 y3))
  | 0 => ⟨fun _ _ _ _ _ r h => by simp [portmanteaulaw13_ExtraBack.j0] at h, fun _ _ _ _ r h => by simp [portmanteaulaw13_ExtraBack.j1] at h, fun _ _ _ _ r h => by simp [portmanteaulaw13_ExtraBack.j2] at h⟩
  | k + 1 => by
    obtain ⟨ih0, ih1, ih2⟩ := portmanteaulaw13_ExtraBack.mono_l k
    refine ⟨?_, ?_, ?_⟩
    · intro y0 y1 y2 y3 y4
      unfold portmanteaulaw13_ExtraBack.j0
      repeat' first
      | (with_reducible exact ih0 _ _ _ _ _)
      | (with_reducible exact ih1 _ _ _ _)
      | (with_reducible exact ih2 _ _ _ _)
      | (with_reducible exact extra_Parse.mono _ _)
      | (with_reducible exact extra_Put.mono _ _ _ _)
      | (with_reducible exact extra_Without.mono _ _ _)
      | (with_reducible exact portmanteaulaw13_awake.mono _)
      | (with_reducible exact portmanteaulaw13_few.mono _ _)
      | (with_reducible exact portmanteauref13_Same.mono _ _ _)
      | (with_reducible exact LeO.refl _)
      | (with_reducible exact LeO.none _)
      | (with_reducible refine LeO.ite ?_ ?_)
      | (with_reducible refine LeO.bind ?_ (fun _ => ?_))
      | exact ih0 _ _ _ _ _
      | exact ih1 _ _ _ _
      | exact ih2 _ _ _ _
      | exact extra_Parse.mono _ _
      | exact extra_Put.mono _ _ _ _
      | exact extra_Without.mono _ _ _
      | exact portmanteaulaw13_awake.mono _
      | exact portmanteaulaw13_few.mono _ _
      | exact portmanteauref13_Same.mono _ _ _
      | exact LeO.none _
      | refine LeO.ite ?_ ?_
      | refine LeO.bind ?_ (fun _ => ?_)
    · intro y0 y1 y2 y3
      unfold portmanteaulaw13_ExtraBack.j1
      repeat' first
      | (with_reducible exact ih0 _ _ _ _ _)
      | (with_reducible exact ih1 _ _ _ _)
      | (with_reducible exact ih2 _ _ _ _)
      | (with_reducible exact extra_Parse.mono _ _)
      | (with_reducible exact extra_Put.mono _ _ _ _)
      | (with_reducible exact extra_Without.mono _ _ _)
      | (with_reducible exact portmanteaulaw13_awake.mono _)
      | (with_reducible exact portmanteaulaw13_few.mono _ _)
      | (with_reducible exact portmanteauref13_Same.mono _ _ _)
      | (with_reducible exact LeO.refl _)
      | (with_reducible exact LeO.none _)
      | (with_reducible refine LeO.ite ?_ ?_)
      | (with_reducible refine LeO.bind ?_ (fun _ => ?_))
      | exact ih0 _ _ _ _ _
      | exact ih1 _ _ _ _
      | exact ih2 _ _ _ _
      | exact extra_Parse.mono _ _
      | exact extra_Put.mono _ _ _ _
      | exact extra_Without.mono _ _ _
      | exact portmanteaulaw13_awake.mono _
      | exact portmanteaulaw13_few.mono _ _
      | exact portmanteauref13_Same.mono _ _ _
      | exact LeO.none _
      | refine LeO.ite ?_ ?_
      | refine LeO.bind ?_ (fun _ => ?_)
    · intro y0 y1 y2 y3
      unfold portmanteaulaw13_ExtraBack.j2
      repeat' first
      | (with_reducible exact ih0 _ _ _ _ _)
      | (with_reducible exact ih1 _ _ _ _)
      | (with_reducible exact ih2 _ _ _ _)
      | (with_reducible exact extra_Parse.mono _ _)
      | (with_reducible exact extra_Put.mono _ _ _ _)
      | (with_reducible exact extra_Without.mono _ _ _)
      | (with_reducible exact portmanteaulaw13_awake.mono _)
      | (with_reducible exact portmanteaulaw13_few.mono _ _)
      | (with_reducible exact portmanteauref13_Same.mono _ _ _)
      | (with_reducible exact LeO.refl _)
      | (with_reducible exact LeO.none _)
      | (with_reducible refine LeO.ite ?_ ?_)
      | (with_reducible refine LeO.bind ?_ (fun _ => ?_))
      | exact ih0 _ _ _ _ _
      | exact ih1 _ _ _ _
      | exact ih2 _ _ _ _
      | exact extra_Parse.mono _ _
      | exact extra_Put.mono _ _ _ _
      | exact extra_Without.mono _ _ _
      | exact portmanteaulaw13_awake.mono _
      | exact portmanteaulaw13_few.mono _ _
      | exact portmanteauref13_Same.mono _ _ _
      | exact LeO.none _
      | refine LeO.ite ?_ ?_
      | refine LeO.bind ?_ (fun _ => ?_)
theorem portmanteaulaw13_ExtraBack.mono : ∀ a0 a1 a2 a3 k, LeO (portmanteaulaw13_ExtraBack.f k a0 a1 a2 a3) (portmanteaulaw13_ExtraBack.f (k + 1) a0 a1 a2 a3) := by
  intro a0 a1 a2 a3 k
  obtain ⟨ih0, ih1, ih2⟩ := portmanteaulaw13_ExtraBack.mono_l k
  unfold portmanteaulaw13_ExtraBack.f
  repeat' first
      | (with_reducible exact ih0 _ _ _ _ _)
      | (with_reducible exact ih1 _ _ _ _)
      | (with_reducible exact ih2 _ _ _ _)
      | (with_reducible exact extra_Parse.mono _ _)
      | (with_reducible exact extra_Put.mono _ _ _ _)
      | (with_reducible exact extra_Without.mono _ _ _)
      | (with_reducible exact portmanteaulaw13_awake.mono _)
      | (with_reducible exact portmanteaulaw13_few.mono _ _)
      | (with_reducible exact portmanteauref13_Same.mono _ _ _)
      | (with_reducible exact LeO.refl _)
      | (with_reducible exact LeO.none _)
      | (with_reducible refine LeO.ite ?_ ?_)
      | (with_reducible refine LeO.bind ?_ (fun _ => ?_))
      | exact ih0 _ _ _ _ _
      | exact ih1 _ _ _ _
      | exact ih2 _ _ _ _
      | exact extra_Parse.mono _ _
      | exact extra_Put.mono _ _ _ _
      | exact extra_Without.mono _ _ _
      | exact portmanteaulaw13_awake.mono _
      | exact portmanteaulaw13_few.mono _ _
      | exact portmanteauref13_Same.mono _ _ _
      | exact LeO.none _
      | refine LeO.ite ?_ ?_
      | refine LeO.bind ?_ (fun _ => ?_)
set_option maxHeartbeats 8000000 in
set_option maxRecDepth 100000 in
theorem portmanteaulaw13_ExtraBack.calls (k : Nat) (a0 : ByteArray) (A1 : Option Addr) (c1 : Nat) (l1 : List (S38)) (a2_0 : Int) (a2_1 : ByteArray) (r : Bool) (w : World) (hr1 : Kd.C k38 w A1 l1.length l1) (hc1 : l1.length ≤ c1) (h : portmanteaulaw13_ExtraBack.f k a0 l1 a2_0 a2_1 = some r) :
    Calls Try.prog 5 #[.string a0, .slice A1 l1.length c1, .agg #[.int .u16 a2_0, .string a2_1]] w fun e w' => e = .returned (.bool r) ∧ Below w.heap.size w w' := by
  have hu38 := Try.underlying38
  have HR1 := Aside0.mk hr1
  have HC1 := Aside0.mk hc1
  clear hr1 hc1
  have HB := Aside0.mk (Below.refl w.heap.size w)
  have H : ((portmanteaulaw13_awake.f k).bind fun t201 => (if t201 = true then (if (a0.size : Int) > 70000 then (portmanteaulaw13_ExtraBack.j0 k a0 l1 true a2_0 a2_1) else ((portmanteaulaw13_few.f k l1).bind fun t202 => (portmanteaulaw13_ExtraBack.j0 k a0 l1 (!t202) a2_0 a2_1))) else (some false))) = some r := h
  clear h
  replace H := Option.bind_eq_some_iff.mp H
  obtain ⟨t201, A40, H⟩ := H
  replace H : (if t201 = true then (if (a0.size : Int) > 70000 then (portmanteaulaw13_ExtraBack.j0 k a0 l1 true a2_0 a2_1) else ((portmanteaulaw13_few.f k l1).bind fun t202 => (portmanteaulaw13_ExtraBack.j0 k a0 l1 (!t202) a2_0 a2_1))) else (some false)) = some r := H
  have A4 := Aside0.mk A40
  clear A40
  by_cases c5 : t201 = true
  · subst c5
    have H1 : (if (a0.size : Int) > 70000 then (portmanteaulaw13_ExtraBack.j0 k a0 l1 true a2_0 a2_1) else ((portmanteaulaw13_few.f k l1).bind fun t202 => (portmanteaulaw13_ExtraBack.j0 k a0 l1 (!t202) a2_0 a2_1))) = some r := by rw [if_pos rfl] at H; exact H
    clear H
    have H := H1
    clear H1
    have HC6 := Aside0.mk H
    clear H
    go_enter Try.func5, Try.ntmps5
    go_upto_region 3 with (first | ((with_reducible refine gate_dst (N := 5) rfl ?_); (try (refine gate_guard (by rfl) ?_; dsimp only)); refine box_event ?hg (N := 5) ?hd (cs := #[.int .u16 a2_0, .string a2_1]) (t := 38) ?hr ?_; (case hd => rfl); (case hg => rfl); (case hr => first | (go_simp; done) | (go_simp; rfl)); intro gb200 hg w7 hbox hb; have n0_ := Aside0.mk (below_step (by repeat (first | (with_reducible first | exact HB.out | apply below_alloc | apply pw_below_drewN | apply below_drew1) | exact HB.out)) hb); have n1_ := Aside0.mk (hbox); have n2_ := Aside0.mk ((by rw [hg]; exact (below_size (by repeat (first | (with_reducible first | exact HB.out | apply below_alloc | apply pw_below_drewN | apply below_drew1) | exact HB.out))) : w.heap.size ≤ gb200)); have n3_ := Aside0.mk ((by rw [hg]; exact (below_size (by repeat (first | (with_reducible first | exact HB.out | apply below_alloc | apply pw_below_drewN | apply below_drew1) | exact HB.out))) : w.heap.size ≤ gb200)); clear HB; have HB := n0_; have BK200 := n1_; have GW200 := n2_; have GE200 := n3_; clear n0_ n1_ n2_ n3_; clear hb hbox hg) | ((with_reducible refine gate_callee (f := 6) rfl ?_); refine goesL_ (some 18) rfl rfl Try.func6 (by kernel_rfl) rfl #[] rfl (by (try simp only [List.map_toArray, List.map_cons, List.map_nil]); first | done | rfl | (simp only [List.length_drop, List.length_take]; rfl)) ?_; (with_reducible refine (portmanteaulaw13_awake.calls k  true _ A4.out).mono ?_); rintro e w8 ⟨rfl, hb⟩; refine ⟨_, rfl, ?_⟩; have n0_ := Aside0.mk (blk_below (g := gb200) (o := .cells #[.int .u16 a2_0, .string a2_1] 38 (0, 0)) (by (with_reducible repeat (first | refine blk_drewN ?_ _ | refine blk_drew ?_ | refine blk_alloc ?_ _)); exact BK200.out) hb); have n1_ := Aside0.mk (below_step (by repeat (first | (with_reducible first | exact HB.out | apply below_alloc | apply pw_below_drewN | apply below_drew1 | refine below_set ?_ GE200.out) | exact HB.out)) hb); clear BK200; clear HB; have BK200 := n0_; have HB := n1_; clear n0_ n1_; (try clear hb); (try clear hb2); (try clear hk); (try clear hi)))
    (try simp only [Act.put, List.setIfInBounds_toArray, List.set_cons_zero, List.set_cons_succ])
    go_cut [27] (fun v27 wc => ∃ (kq : Nat) (x27_5 : Bool), v27 = .bool x27_5 ∧ Aside0 (portmanteaulaw13_ExtraBack.j0 kq a0 l1 x27_5 a2_0 a2_1 = some r) ∧ Aside0 (kq ≤ k) ∧ Aside0 (wc.heap[gb200]? = some (.cells #[.int .u16 a2_0, .string a2_1] 38 (0, 0))) ∧ Aside0 (Below w.heap.size w wc))
    case first =>
      have H := HC6.out
      clear HC6
      by_cases c9 : (a0.size : Int) > 70000
      · rw [if_pos c9] at H
        have c9b0 : decide (70000 < (a0.size : Int)) = true := decide_eq_true c9
        have c9b1 : decide (70000 < a0.size) = true := decide_eq_true (by omega)
        clear c9
        (first | rw [c9b0] | (simp only [i64_w, i32_w]; rw [c9b0]) | skip)
        have H' := Aside0.mk H
        clear H
        go_wp2
        go_meet
        case rel => exact ⟨_, (true), (by first | rfl | (simp; done) | (simp [*]; done)), H', ⟨by first | omega | exact Nat.le_refl _⟩, ⟨by (with_reducible repeat (first | refine blk_drewN ?_ _ | refine blk_drew ?_ | refine blk_alloc ?_ _)); exact BK200.out⟩, ⟨by repeat (first | (with_reducible first | exact HB.out | apply below_alloc | apply pw_below_drewN | apply below_drew1 | refine below_set ?_ GE200.out) | exact HB.out)⟩⟩
      · rw [if_neg c9] at H
        have c9b0 : decide (70000 < (a0.size : Int)) = false := decide_eq_false c9
        have c9b1 : decide (70000 < a0.size) = false := decide_eq_false (by omega)
        clear c9
        (first | rw [c9b0] | (simp only [i64_w, i32_w]; rw [c9b0]) | skip)
        replace H := Option.bind_eq_some_iff.mp H
        obtain ⟨t202, A100, H⟩ := H
        replace H : (portmanteaulaw13_ExtraBack.j0 k a0 l1 (!t202) a2_0 a2_1) = some r := H
        have A10 := Aside0.mk A100
        clear A100
        have H' := Aside0.mk H
        clear H
        go_wp2_with (first | (go_at_call 7; (with_reducible refine (portmanteaulaw13_few.calls k _ _ l1 t202 _ ?side1 ?side2 A10.out).mono ?_); (case side1 => repeat (first | exact (Kd.C_below HR1.out HB.out) | (with_reducible refine Kd.C_alloc ?_ _) | (with_reducible refine Kd.C_drewN ?_ _) | (with_reducible refine Kd.C_drew ?_))); (case side2 => exact HC1.out); rintro e w11 ⟨rfl, hb⟩; have n0_ := Aside0.mk (blk_below (g := gb200) (o := .cells #[.int .u16 a2_0, .string a2_1] 38 (0, 0)) (by (with_reducible repeat (first | refine blk_drewN ?_ _ | refine blk_drew ?_ | refine blk_alloc ?_ _)); exact BK200.out) hb); have n1_ := Aside0.mk (below_step (by repeat (first | (with_reducible first | exact HB.out | apply below_alloc | apply pw_below_drewN | apply below_drew1 | refine below_set ?_ GE200.out) | exact HB.out)) hb); clear BK200; clear HB; have BK200 := n0_; have HB := n1_; clear n0_ n1_; (try clear hb); (try clear hb2); (try clear hk); (try clear hi)))
        go_meet
        case rel => exact ⟨_, (!t202), (by first | rfl | (simp; done) | (simp [*]; done)), H', ⟨by first | omega | exact Nat.le_refl _⟩, ⟨by (with_reducible repeat (first | refine blk_drewN ?_ _ | refine blk_drew ?_ | refine blk_alloc ?_ _)); exact BK200.out⟩, ⟨by repeat (first | (with_reducible first | exact HB.out | apply below_alloc | apply pw_below_drewN | apply below_drew1 | refine below_set ?_ GE200.out) | exact HB.out)⟩⟩
    case rest =>
      clear HC6
      try clear c1
      try clear p2
      try clear c5
      try clear c6
      try clear c9
      try clear c9b0
      try clear c9b1
      obtain ⟨kq, x27_5, rfl, HA, HJ5, BK200, HB⟩ := hcut
      cases kq with
      | zero => exact absurd HA.out (by simp [portmanteaulaw13_ExtraBack.j0])
      | succ kj5 =>
        have H := HA.out
        clear HA
        simp only [portmanteaulaw13_ExtraBack.j0] at H
        by_cases c12 : x27_5 = true
        · subst c12
          have H1 : (some true) = some r := by rw [if_pos rfl] at H; exact H
          clear H
          have H := H1
          clear H1
          obtain rfl := Option.some.inj H
          go_wp2
          go_ret
          exact ⟨by first | rfl | (simp [errW_none, errW_some] <;> rfl) | (simp [*, errW_none, errW_some] <;> rfl), by repeat (first | (with_reducible first | exact HB.out | apply below_alloc | apply pw_below_drewN | apply below_drew1 | refine below_set ?_ GE200.out) | exact HB.out)⟩
        · replace c12 := Bool.eq_false_iff.mpr c12
          subst c12
          have H1 : ((extra_Print.f l1).bind fun bt203 => (if bt203.2 = 0 then ((extra_Parse.f kj5 bt203.1).bind fun bt205 => (if bt205.2 = 0 then ((portmanteauref13_Same.f kj5 l1 bt205.1).bind fun t209 => (if t209 = true then (portmanteaulaw13_ExtraBack.j1 kj5 a0 l1 a2_0 a2_1) else (some false))) else (some false))) else (portmanteaulaw13_ExtraBack.j1 kj5 a0 l1 a2_0 a2_1))) = some r := by rw [if_neg (show ¬ (false = true) by decide)] at H; exact H
          clear H
          have H := H1
          clear H1
          replace H := Option.bind_eq_some_iff.mp H
          obtain ⟨⟨t203, t204⟩, A130, H⟩ := H
          replace H : (if t204 = 0 then ((extra_Parse.f kj5 t203).bind fun bt205 => (if bt205.2 = 0 then ((portmanteauref13_Same.f kj5 l1 bt205.1).bind fun t209 => (if t209 = true then (portmanteaulaw13_ExtraBack.j1 kj5 a0 l1 a2_0 a2_1) else (some false))) else (some false))) else (portmanteaulaw13_ExtraBack.j1 kj5 a0 l1 a2_0 a2_1)) = some r := H
          have A13 := Aside0.mk A130
          clear A130
          have HC14 := Aside0.mk H
          clear H
          go_upto_if 34 with (first | ((with_reducible refine gate_callee (f := 10) rfl ?_); refine goesL_ (some 30) rfl rfl Try.func10 (by kernel_rfl) rfl #[.slice A1 l1.length c1] rfl (by (try simp only [List.map_toArray, List.map_cons, List.map_nil]); first | done | rfl | (simp only [List.length_drop, List.length_take]; rfl)) ?_; (with_reducible refine (extra_Print.calls _ _ l1 t203 t204 _ ?side1 ?side2 A13.out).mono ?_); (case side1 => repeat (first | exact (Kd.C_below HR1.out HB.out) | (with_reducible refine Kd.C_alloc ?_ _) | (with_reducible refine Kd.C_drewN ?_ _) | (with_reducible refine Kd.C_drew ?_))); (case side2 => exact HC1.out); rintro e w15 ⟨rfl, hb⟩; refine ⟨_, rfl, ?_⟩; have n0_ := Aside0.mk (blk_below (g := gb200) (o := .cells #[.int .u16 a2_0, .string a2_1] 38 (0, 0)) (by (with_reducible repeat (first | refine blk_drewN ?_ _ | refine blk_drew ?_ | refine blk_alloc ?_ _)); exact BK200.out) hb); have n1_ := Aside0.mk (below_step (by repeat (first | (with_reducible first | exact HB.out | apply below_alloc | apply pw_below_drewN | apply below_drew1 | refine below_set ?_ GE200.out) | exact HB.out)) hb); clear BK200; clear HB; have BK200 := n0_; have HB := n1_; clear n0_ n1_; (try clear hb); (try clear hb2); (try clear hk); (try clear hi)))
          (try simp only [Act.put, List.setIfInBounds_toArray, List.set_cons_zero, List.set_cons_succ])
          go_cut [] (fun wc => ∃ (kq : Nat), Aside0 (portmanteaulaw13_ExtraBack.j1 kq a0 l1 a2_0 a2_1 = some r) ∧ Aside0 (kq ≤ kj5) ∧ Aside0 (wc.heap[gb200]? = some (.cells #[.int .u16 a2_0, .string a2_1] 38 (0, 0))) ∧ Aside0 (Below w.heap.size w wc))
          case first =>
            have H := HC14.out
            clear HC14
            by_cases c16 : t204 = 0
            · rw [if_pos c16] at H
              have c16b0 : (t204 == 0) = true := beq_iff_eq.mpr c16
              have c16b1 : (t204 != 0) = false := bne_eq_false_iff_eq.mpr c16
              clear c16
              (first | rw [c16b0] | (simp only [i64_w, i32_w]; rw [c16b0]) | skip)
              replace H := Option.bind_eq_some_iff.mp H
              obtain ⟨⟨t205, t206⟩, A170, H⟩ := H
              replace H : (if t206 = 0 then ((portmanteauref13_Same.f kj5 l1 t205).bind fun t209 => (if t209 = true then (portmanteaulaw13_ExtraBack.j1 kj5 a0 l1 a2_0 a2_1) else (some false))) else (some false)) = some r := H
              have A17 := Aside0.mk A170
              clear A170
              by_cases c18 : t206 = 0
              · rw [if_pos c18] at H
                have c18b0 : (t206 == 0) = true := beq_iff_eq.mpr c18
                have c18b1 : (t206 != 0) = false := bne_eq_false_iff_eq.mpr c18
                clear c18
                replace H := Option.bind_eq_some_iff.mp H
                obtain ⟨t209, A190, H⟩ := H
                replace H : (if t209 = true then (portmanteaulaw13_ExtraBack.j1 kj5 a0 l1 a2_0 a2_1) else (some false)) = some r := H
                have A19 := Aside0.mk A190
                clear A190
                by_cases c20 : t209 = true
                · subst c20
                  have H1 : (portmanteaulaw13_ExtraBack.j1 kj5 a0 l1 a2_0 a2_1) = some r := by rw [if_pos rfl] at H; exact H
                  clear H
                  have H := H1
                  clear H1
                  have H' := Aside0.mk H
                  clear H
                  go_wp2_with (first | ((with_reducible refine gate_callee (f := 8) rfl ?_); refine goesL_ (some 37) rfl rfl Try.func8 (by kernel_rfl) rfl #[.string t203] rfl (by (try simp only [List.map_toArray, List.map_cons, List.map_nil]); first | done | rfl | (simp only [List.length_drop, List.length_take]; rfl)) ?_; (with_reducible refine (extra_Parse.calls kj5 t203 t205 t206 _ A17.out).mono ?_); rintro e w21 ⟨v207, rfl, ho0, hb⟩; refine ⟨_, rfl, ?_⟩; have n0_ := Aside0.mk (Kd.R_lower (Kd.R_newB ho0 (g := gb200) (o := .cells #[.int .u16 a2_0, .string a2_1] 38 (0, 0)) (by (with_reducible repeat (first | refine blk_drewN ?_ _ | refine blk_drew ?_ | refine blk_alloc ?_ _)); exact BK200.out)) (below_size (by repeat (first | (with_reducible first | exact HB.out | apply below_alloc | apply pw_below_drewN | apply below_drew1 | refine below_set ?_ GE200.out) | exact HB.out)))); have n1_ := Aside0.mk (blk_below (g := gb200) (o := .cells #[.int .u16 a2_0, .string a2_1] 38 (0, 0)) (by (with_reducible repeat (first | refine blk_drewN ?_ _ | refine blk_drew ?_ | refine blk_alloc ?_ _)); exact BK200.out) hb); have n2_ := Aside0.mk (below_step (by repeat (first | (with_reducible first | exact HB.out | apply below_alloc | apply pw_below_drewN | apply below_drew1 | refine below_set ?_ GE200.out) | exact HB.out)) hb); clear BK200; clear HB; have HO208 := n0_; have BK200 := n1_; have HB := n2_; clear n0_ n1_ n2_; (try clear hb); (try clear hb2); (try clear hk); (try clear hi); (try clear ho0); obtain ⟨Ao22, co22, eo22⟩ := Kd.R_slice HO208.out; subst eo22) | (go_at_call 12; (with_reducible refine (portmanteauref13_Same.calls kj5 _ _ l1 _ _ t205 true _ ?side1 ?side2 ?side3 ?side4 A19.out).mono ?_); (case side1 => repeat (first | exact (Kd.C_below HR1.out HB.out) | (with_reducible refine Kd.C_alloc ?_ _) | (with_reducible refine Kd.C_drewN ?_ _) | (with_reducible refine Kd.C_drew ?_))); (case side2 => exact HC1.out); (case side3 => repeat (first | exact (Kd.R_reads' HO208.out).2.2 | (with_reducible refine Kd.C_alloc ?_ _) | (with_reducible refine Kd.C_drewN ?_ _) | (with_reducible refine Kd.C_drew ?_))); (case side4 => exact (Kd.R_reads' HO208.out).2.1); rintro e w' ⟨rfl, ⟨nd, rfl⟩⟩))
                  go_meet
                  case rel => exact ⟨_, H', ⟨by have := HJ5.out; first | omega | exact Nat.le_refl _⟩, ⟨by (with_reducible repeat (first | refine blk_drewN ?_ _ | refine blk_drew ?_ | refine blk_alloc ?_ _)); exact BK200.out⟩, ⟨by repeat (first | (with_reducible first | exact HB.out | apply below_alloc | apply pw_below_drewN | apply below_drew1 | refine below_set ?_ GE200.out) | exact HB.out)⟩⟩
                · replace c20 := Bool.eq_false_iff.mpr c20
                  subst c20
                  have H1 : (some false) = some r := by rw [if_neg (show ¬ (false = true) by decide)] at H; exact H
                  clear H
                  have H := H1
                  clear H1
                  obtain rfl := Option.some.inj H
                  go_wp2_with (first | ((with_reducible refine gate_callee (f := 8) rfl ?_); refine goesL_ (some 37) rfl rfl Try.func8 (by kernel_rfl) rfl #[.string t203] rfl (by (try simp only [List.map_toArray, List.map_cons, List.map_nil]); first | done | rfl | (simp only [List.length_drop, List.length_take]; rfl)) ?_; (with_reducible refine (extra_Parse.calls kj5 t203 t205 t206 _ A17.out).mono ?_); rintro e w23 ⟨v207, rfl, ho0, hb⟩; refine ⟨_, rfl, ?_⟩; have n0_ := Aside0.mk (Kd.R_lower (Kd.R_newB ho0 (g := gb200) (o := .cells #[.int .u16 a2_0, .string a2_1] 38 (0, 0)) (by (with_reducible repeat (first | refine blk_drewN ?_ _ | refine blk_drew ?_ | refine blk_alloc ?_ _)); exact BK200.out)) (below_size (by repeat (first | (with_reducible first | exact HB.out | apply below_alloc | apply pw_below_drewN | apply below_drew1 | refine below_set ?_ GE200.out) | exact HB.out)))); have n1_ := Aside0.mk (blk_below (g := gb200) (o := .cells #[.int .u16 a2_0, .string a2_1] 38 (0, 0)) (by (with_reducible repeat (first | refine blk_drewN ?_ _ | refine blk_drew ?_ | refine blk_alloc ?_ _)); exact BK200.out) hb); have n2_ := Aside0.mk (below_step (by repeat (first | (with_reducible first | exact HB.out | apply below_alloc | apply pw_below_drewN | apply below_drew1 | refine below_set ?_ GE200.out) | exact HB.out)) hb); clear BK200; clear HB; have HO208 := n0_; have BK200 := n1_; have HB := n2_; clear n0_ n1_ n2_; (try clear hb); (try clear hb2); (try clear hk); (try clear hi); (try clear ho0); obtain ⟨Ao24, co24, eo24⟩ := Kd.R_slice HO208.out; subst eo24) | (go_at_call 12; (with_reducible refine (portmanteauref13_Same.calls kj5 _ _ l1 _ _ t205 false _ ?side1 ?side2 ?side3 ?side4 A19.out).mono ?_); (case side1 => repeat (first | exact (Kd.C_below HR1.out HB.out) | (with_reducible refine Kd.C_alloc ?_ _) | (with_reducible refine Kd.C_drewN ?_ _) | (with_reducible refine Kd.C_drew ?_))); (case side2 => exact HC1.out); (case side3 => repeat (first | exact (Kd.R_reads' HO208.out).2.2 | (with_reducible refine Kd.C_alloc ?_ _) | (with_reducible refine Kd.C_drewN ?_ _) | (with_reducible refine Kd.C_drew ?_))); (case side4 => exact (Kd.R_reads' HO208.out).2.1); rintro e w' ⟨rfl, ⟨nd, rfl⟩⟩))
                  go_ret
                  exact ⟨by first | rfl | (simp [errW_none, errW_some] <;> rfl) | (simp [*, errW_none, errW_some] <;> rfl), by repeat (first | (with_reducible first | exact HB.out | apply below_alloc | apply pw_below_drewN | apply below_drew1 | refine below_set ?_ GE200.out) | exact HB.out)⟩
              · rw [if_neg c18] at H
                have c18b0 : (t206 == 0) = false := beq_eq_false_iff_ne.mpr c18
                have c18b1 : (t206 != 0) = true := bne_iff_ne.mpr c18
                obtain rfl := Option.some.inj H
                go_wp2_with (first | ((with_reducible refine gate_callee (f := 8) rfl ?_); refine goesL_ (some 37) rfl rfl Try.func8 (by kernel_rfl) rfl #[.string t203] rfl (by (try simp only [List.map_toArray, List.map_cons, List.map_nil]); first | done | rfl | (simp only [List.length_drop, List.length_take]; rfl)) ?_; (with_reducible refine (extra_Parse.calls kj5 t203 t205 t206 _ A17.out).mono ?_); rintro e w25 ⟨v207, rfl, ho0, hb⟩; refine ⟨_, rfl, ?_⟩; have n0_ := Aside0.mk (Kd.R_lower (Kd.R_newB ho0 (g := gb200) (o := .cells #[.int .u16 a2_0, .string a2_1] 38 (0, 0)) (by (with_reducible repeat (first | refine blk_drewN ?_ _ | refine blk_drew ?_ | refine blk_alloc ?_ _)); exact BK200.out)) (below_size (by repeat (first | (with_reducible first | exact HB.out | apply below_alloc | apply pw_below_drewN | apply below_drew1 | refine below_set ?_ GE200.out) | exact HB.out)))); have n1_ := Aside0.mk (blk_below (g := gb200) (o := .cells #[.int .u16 a2_0, .string a2_1] 38 (0, 0)) (by (with_reducible repeat (first | refine blk_drewN ?_ _ | refine blk_drew ?_ | refine blk_alloc ?_ _)); exact BK200.out) hb); have n2_ := Aside0.mk (below_step (by repeat (first | (with_reducible first | exact HB.out | apply below_alloc | apply pw_below_drewN | apply below_drew1 | refine below_set ?_ GE200.out) | exact HB.out)) hb); clear BK200; clear HB; have HO208 := n0_; have BK200 := n1_; have HB := n2_; clear n0_ n1_ n2_; (try clear hb); (try clear hb2); (try clear hk); (try clear hi); (try clear ho0)))
                go_ret
                exact ⟨by first | rfl | (simp [errW_none, errW_some] <;> rfl) | (simp [*, errW_none, errW_some] <;> rfl), by repeat (first | (with_reducible first | exact HB.out | apply below_alloc | apply pw_below_drewN | apply below_drew1 | refine below_set ?_ GE200.out) | exact HB.out)⟩
            · rw [if_neg c16] at H
              have c16b0 : (t204 == 0) = false := beq_eq_false_iff_ne.mpr c16
              have c16b1 : (t204 != 0) = true := bne_iff_ne.mpr c16
              (first | rw [c16b0] | (simp only [i64_w, i32_w]; rw [c16b0]) | skip)
              have H' := Aside0.mk H
              clear H
              go_wp2
              go_meet
              case rel => exact ⟨_, H', ⟨by have := HJ5.out; first | omega | exact Nat.le_refl _⟩, ⟨by (with_reducible repeat (first | refine blk_drewN ?_ _ | refine blk_drew ?_ | refine blk_alloc ?_ _)); exact BK200.out⟩, ⟨by repeat (first | (with_reducible first | exact HB.out | apply below_alloc | apply pw_below_drewN | apply below_drew1 | refine below_set ?_ GE200.out) | exact HB.out)⟩⟩
          case rest =>
            clear HC14
            try clear c1
            try clear c2
            try clear p2
            try clear c5
            try clear c6
            try clear c8
            try clear c9
            try clear c9b0
            try clear c9b1
            try clear c10
            try clear c12
            try clear c16
            try clear c16b0
            try clear c16b1
            try clear c18
            try clear c18b0
            try clear c18b1
            try clear c20
            try clear p2
            obtain ⟨kq, HA, HJ13, BK200, HB⟩ := hcut
            cases kq with
            | zero => exact absurd HA.out (by simp [portmanteaulaw13_ExtraBack.j1])
            | succ kj13 =>
              have H := HA.out
              clear HA
              simp only [portmanteaulaw13_ExtraBack.j1] at H
              replace H := Option.bind_eq_some_iff.mp H
              obtain ⟨⟨t210, t211⟩, A260, H⟩ := H
              replace H : ((extra_Print.f t210).bind fun bt214 => (if t211 = 0 then (if bt214.2 = 0 then (portmanteaulaw13_ExtraBack.j2 kj13 l1 (bt214.1.toList != a0.toList) a2_0 a2_1) else (portmanteaulaw13_ExtraBack.j2 kj13 l1 true a2_0 a2_1)) else (portmanteaulaw13_ExtraBack.j2 kj13 l1 false a2_0 a2_1))) = some r := H
              have A26 := Aside0.mk A260
              clear A260
              replace H := Option.bind_eq_some_iff.mp H
              obtain ⟨⟨t214, t215⟩, A270, H⟩ := H
              replace H : (if t211 = 0 then (if t215 = 0 then (portmanteaulaw13_ExtraBack.j2 kj13 l1 (t214.toList != a0.toList) a2_0 a2_1) else (portmanteaulaw13_ExtraBack.j2 kj13 l1 true a2_0 a2_1)) else (portmanteaulaw13_ExtraBack.j2 kj13 l1 false a2_0 a2_1)) = some r := H
              have A27 := Aside0.mk A270
              clear A270
              have HC28 := Aside0.mk H
              clear H
              go_upto_region 12 with (first | ((with_reducible refine gate_callee (f := 8) rfl ?_); refine goesL_ (some 50) rfl rfl Try.func8 (by kernel_rfl) rfl #[.string a0] rfl (by (try simp only [List.map_toArray, List.map_cons, List.map_nil]); first | done | rfl | (simp only [List.length_drop, List.length_take]; rfl)) ?_; (with_reducible refine (extra_Parse.calls kj13 a0 t210 t211 _ A26.out).mono ?_); rintro e w29 ⟨v212, rfl, ho0, hb⟩; refine ⟨_, rfl, ?_⟩; have n0_ := Aside0.mk (Kd.R_lower (Kd.R_newB ho0 (g := gb200) (o := .cells #[.int .u16 a2_0, .string a2_1] 38 (0, 0)) (by (with_reducible repeat (first | refine blk_drewN ?_ _ | refine blk_drew ?_ | refine blk_alloc ?_ _)); exact BK200.out)) (below_size (by repeat (first | (with_reducible first | exact HB.out | apply below_alloc | apply pw_below_drewN | apply below_drew1 | refine below_set ?_ GE200.out) | exact HB.out)))); have n1_ := Aside0.mk (blk_below (g := gb200) (o := .cells #[.int .u16 a2_0, .string a2_1] 38 (0, 0)) (by (with_reducible repeat (first | refine blk_drewN ?_ _ | refine blk_drew ?_ | refine blk_alloc ?_ _)); exact BK200.out) hb); have n2_ := Aside0.mk (below_step (by repeat (first | (with_reducible first | exact HB.out | apply below_alloc | apply pw_below_drewN | apply below_drew1 | refine below_set ?_ GE200.out) | exact HB.out)) hb); clear BK200; clear HB; have HO213 := n0_; have BK200 := n1_; have HB := n2_; clear n0_ n1_ n2_; (try clear hb); (try clear hb2); (try clear hk); (try clear hi); (try clear ho0); obtain ⟨Ao30, co30, eo30⟩ := Kd.R_slice HO213.out; subst eo30) | ((with_reducible refine gate_callee (f := 10) rfl ?_); refine goesL_ (some 55) rfl rfl Try.func10 (by kernel_rfl) rfl #[.slice Ao30 t210.length co30] rfl (by (try simp only [List.map_toArray, List.map_cons, List.map_nil]); first | done | rfl | (simp only [List.length_drop, List.length_take]; rfl)) ?_; (with_reducible refine (extra_Print.calls _ _ t210 t214 t215 _ ?side1 ?side2 A27.out).mono ?_); (case side1 => repeat (first | exact (Kd.R_reads' HO213.out).2.2 | (with_reducible refine Kd.C_alloc ?_ _) | (with_reducible refine Kd.C_drewN ?_ _) | (with_reducible refine Kd.C_drew ?_))); (case side2 => exact (Kd.R_reads' HO213.out).2.1); rintro e w31 ⟨rfl, hb⟩; refine ⟨_, rfl, ?_⟩; have n0_ := Aside0.mk (Kd.R_below (by (with_reducible repeat (first | apply Kd.R_alloc | apply Kd.R_drewN | apply Kd.R_drew)); exact HO213.out) hb); have n1_ := Aside0.mk (blk_below (g := gb200) (o := .cells #[.int .u16 a2_0, .string a2_1] 38 (0, 0)) (by (with_reducible repeat (first | refine blk_drewN ?_ _ | refine blk_drew ?_ | refine blk_alloc ?_ _)); exact BK200.out) hb); have n2_ := Aside0.mk (below_step (by repeat (first | (with_reducible first | exact HB.out | apply below_alloc | apply pw_below_drewN | apply below_drew1 | refine below_set ?_ GE200.out) | exact HB.out)) hb); clear HO213; clear BK200; clear HB; have HO213 := n0_; have BK200 := n1_; have HB := n2_; clear n0_ n1_ n2_; (try clear hb); (try clear hb2); (try clear hk); (try clear hi)))
              (try simp only [Act.put, List.setIfInBounds_toArray, List.set_cons_zero, List.set_cons_succ])
              go_cut [68] (fun v68 wc => ∃ (kq : Nat) (x68_27 : Bool), v68 = .bool x68_27 ∧ Aside0 (portmanteaulaw13_ExtraBack.j2 kq l1 x68_27 a2_0 a2_1 = some r) ∧ Aside0 (kq ≤ kj13) ∧ Aside0 (wc.heap[gb200]? = some (.cells #[.int .u16 a2_0, .string a2_1] 38 (0, 0))) ∧ Aside0 (Below w.heap.size w wc))
              case first =>
                have H := HC28.out
                clear HC28
                by_cases c32 : t211 = 0
                · rw [if_pos c32] at H
                  have c32b0 : (t211 == 0) = true := beq_iff_eq.mpr c32
                  have c32b1 : (t211 != 0) = false := bne_eq_false_iff_eq.mpr c32
                  clear c32
                  (first | rw [c32b0] | (simp only [i64_w, i32_w]; rw [c32b0]) | skip)
                  by_cases c33 : t215 = 0
                  · rw [if_pos c33] at H
                    have c33b0 : (t215 == 0) = true := beq_iff_eq.mpr c33
                    have c33b1 : (t215 != 0) = false := bne_eq_false_iff_eq.mpr c33
                    clear c33
                    have H' := Aside0.mk H
                    clear H
                    go_wp2
                    go_meet
                    case rel => exact ⟨_, ((t214.toList != a0.toList)), (by first | rfl | (simp; done) | (simp [*]; done)), H', ⟨by have := HJ5.out; have := HJ13.out; first | omega | exact Nat.le_refl _⟩, ⟨by (with_reducible repeat (first | refine blk_drewN ?_ _ | refine blk_drew ?_ | refine blk_alloc ?_ _)); exact BK200.out⟩, ⟨by repeat (first | (with_reducible first | exact HB.out | apply below_alloc | apply pw_below_drewN | apply below_drew1 | refine below_set ?_ GE200.out) | exact HB.out)⟩⟩
                  · rw [if_neg c33] at H
                    have c33b0 : (t215 == 0) = false := beq_eq_false_iff_ne.mpr c33
                    have c33b1 : (t215 != 0) = true := bne_iff_ne.mpr c33
                    have H' := Aside0.mk H
                    clear H
                    go_wp2
                    go_meet
                    case rel => exact ⟨_, (true), (by first | rfl | (simp; done) | (simp [*]; done)), H', ⟨by have := HJ5.out; have := HJ13.out; first | omega | exact Nat.le_refl _⟩, ⟨by (with_reducible repeat (first | refine blk_drewN ?_ _ | refine blk_drew ?_ | refine blk_alloc ?_ _)); exact BK200.out⟩, ⟨by repeat (first | (with_reducible first | exact HB.out | apply below_alloc | apply pw_below_drewN | apply below_drew1 | refine below_set ?_ GE200.out) | exact HB.out)⟩⟩
                · rw [if_neg c32] at H
                  have c32b0 : (t211 == 0) = false := beq_eq_false_iff_ne.mpr c32
                  have c32b1 : (t211 != 0) = true := bne_iff_ne.mpr c32
                  (first | rw [c32b0] | (simp only [i64_w, i32_w]; rw [c32b0]) | skip)
                  have H' := Aside0.mk H
                  clear H
                  go_wp2
                  go_meet
                  case rel => exact ⟨_, (false), (by first | rfl | (simp; done) | (simp [*]; done)), H', ⟨by have := HJ5.out; have := HJ13.out; first | omega | exact Nat.le_refl _⟩, ⟨by (with_reducible repeat (first | refine blk_drewN ?_ _ | refine blk_drew ?_ | refine blk_alloc ?_ _)); exact BK200.out⟩, ⟨by repeat (first | (with_reducible first | exact HB.out | apply below_alloc | apply pw_below_drewN | apply below_drew1 | refine below_set ?_ GE200.out) | exact HB.out)⟩⟩
              case rest =>
                clear HC28
                try clear c1
                try clear c2
                try clear p2
                try clear c3
                try clear c5
                try clear c6
                try clear c8
                try clear c9
                try clear c9b0
                try clear c9b1
                try clear c10
                try clear c12
                try clear c16
                try clear c16b0
                try clear c16b1
                try clear c18
                try clear c18b0
                try clear c18b1
                try clear c20
                try clear c32
                try clear c32b0
                try clear c32b1
                try clear c33
                try clear c33b0
                try clear c33b1
                try clear p2
                obtain ⟨kq, x68_27, rfl, HA, HJ27, BK200, HB⟩ := hcut
                cases kq with
                | zero => exact absurd HA.out (by simp [portmanteaulaw13_ExtraBack.j2])
                | succ kj27 =>
                  have H := HA.out
                  clear HA
                  simp only [portmanteaulaw13_ExtraBack.j2] at H
                  by_cases c34 : x68_27 = true
                  · subst c34
                    have H1 : (some false) = some r := by rw [if_pos rfl] at H; exact H
                    clear H
                    have H := H1
                    clear H1
                    obtain rfl := Option.some.inj H
                    go_wp2
                    go_ret
                    exact ⟨by first | rfl | (simp [errW_none, errW_some] <;> rfl) | (simp [*, errW_none, errW_some] <;> rfl), by repeat (first | (with_reducible first | exact HB.out | apply below_alloc | apply pw_below_drewN | apply below_drew1 | refine below_set ?_ GE200.out) | exact HB.out)⟩
                  · replace c34 := Bool.eq_false_iff.mpr c34
                    subst c34
                    have H1 : ((extra_Put.f kj27 l1 a2_0 a2_1).bind fun t216 => ((extra_Find.f t216 a2_0).bind fun bt219 => (if bt219.2 = true then (if bt219.1.toList = a2_1.toList then ((extra_Without.f kj27 t216 (([a2_0] : List Int))).bind fun t224 => (some ((t224.length : Int) == (wrap64 ((t216.length : Int) - 1))))) else (some false)) else (some false)))) = some r := by rw [if_neg (show ¬ (false = true) by decide)] at H; exact H
                    clear H
                    have H := H1
                    clear H1
                    replace H := Option.bind_eq_some_iff.mp H
                    obtain ⟨t216, A350, H⟩ := H
                    replace H : ((extra_Find.f t216 a2_0).bind fun bt219 => (if bt219.2 = true then (if bt219.1.toList = a2_1.toList then ((extra_Without.f kj27 t216 (([a2_0] : List Int))).bind fun t224 => (some ((t224.length : Int) == (wrap64 ((t216.length : Int) - 1))))) else (some false)) else (some false))) = some r := H
                    have A35 := Aside0.mk A350
                    clear A350
                    replace H := Option.bind_eq_some_iff.mp H
                    obtain ⟨⟨t219, t220⟩, A360, H⟩ := H
                    replace H : (if t220 = true then (if t219.toList = a2_1.toList then ((extra_Without.f kj27 t216 (([a2_0] : List Int))).bind fun t224 => (some ((t224.length : Int) == (wrap64 ((t216.length : Int) - 1))))) else (some false)) else (some false)) = some r := H
                    have A36 := Aside0.mk A360
                    clear A360
                    by_cases c37 : t220 = true
                    · subst c37
                      have H1 : (if t219.toList = a2_1.toList then ((extra_Without.f kj27 t216 (([a2_0] : List Int))).bind fun t224 => (some ((t224.length : Int) == (wrap64 ((t216.length : Int) - 1))))) else (some false)) = some r := by rw [if_pos rfl] at H; exact H
                      clear H
                      have H := H1
                      clear H1
                      by_cases c38 : t219.toList = a2_1.toList
                      · rw [if_pos c38] at H
                        have c38b0 : (t219.toList == a2_1.toList) = true := beq_iff_eq.mpr c38
                        have c38b1 : (t219.toList != a2_1.toList) = false := bne_eq_false_iff_eq.mpr c38
                        clear c38
                        obtain ⟨y221, hy221⟩ : ∃ y_ : List Int, y_ = (([a2_0] : List Int)) := ⟨_, rfl⟩
                        replace H : ((extra_Without.f kj27 t216 y221).bind fun t224 => (some ((t224.length : Int) == (wrap64 ((t216.length : Int) - 1))))) = some r := by first | (rw [hy221]; with_reducible exact H) | (have H2_ := (Option.bind_some _ _).symm.trans H; rw [hy221]; with_reducible exact H2_) | (have H2_ := (Option.bind_some _ _).symm.trans H; with_reducible exact H2_) | with_reducible exact H | (rw [hy221]; exact H) | exact H
                        have Ny221 := Aside0.mk hy221
                        clear hy221
                        replace H := Option.bind_eq_some_iff.mp H
                        obtain ⟨t224, A390, H⟩ := H
                        replace H : (some ((t224.length : Int) == (wrap64 ((t216.length : Int) - 1)))) = some r := H
                        have A39 := Aside0.mk A390
                        clear A390
                        obtain rfl := Option.some.inj H
                        have hcz40_0 : wc.cell? ⟨gb200, 0, none⟩ = some (.int .u16 a2_0) := (blk_cell BK200.out 0).trans rfl
                        have hcz40_1 : wc.cell? ⟨gb200, 1, none⟩ = some (.string a2_1) := (blk_cell BK200.out 1).trans rfl
                        have hfz40_0 := blk_frozen BK200.out 0
                        have hfz40_1 := blk_frozen BK200.out 1
                        go_wp2_with (first | ((with_reducible refine gate_callee (f := 19) rfl ?_); refine goesL_ (some 71) rfl rfl Try.func19 (by kernel_rfl) rfl #[.slice A1 l1.length c1, .agg #[.int .u16 a2_0, .string a2_1]] rfl (by (try simp only [List.map_toArray, List.map_cons, List.map_nil]); first | done | rfl | (simp only [List.length_drop, List.length_take]; rfl)) ?_; (with_reducible refine (extra_Put.calls kj27 (fun k_ => k_ < w.heap.size) _ _ l1 a2_0 a2_1 t216 _ ?side1 A35.out).mono ?_); (case side1 => exact Kd.V_mk HC1.out (Kd.F_below (Kd.C_F k38_heap HR1.out) (by repeat (first | (with_reducible first | exact HB.out | apply below_alloc | apply pw_below_drewN | apply below_drew1 | refine below_set ?_ GE200.out) | exact HB.out)))); rintro e w41 ⟨v217, rfl, ho0, hb⟩; refine ⟨_, rfl, ?_⟩; have n0_ := Aside0.mk (Kd.R_lower (Kd.R_newB (Kd.R_mono (ok' := fun k_ => True) ho0 (fun _ hk_ => trivial)) (g := gb200) (o := .cells #[.int .u16 a2_0, .string a2_1] 38 (0, 0)) (by (with_reducible repeat (first | refine blk_drewN ?_ _ | refine blk_drew ?_ | refine blk_alloc ?_ _)); exact BK200.out)) (below_size (by repeat (first | (with_reducible first | exact HB.out | apply below_alloc | apply pw_below_drewN | apply below_drew1 | refine below_set ?_ GE200.out) | exact HB.out)))); have n1_ := Aside0.mk (blk_below (g := gb200) (o := .cells #[.int .u16 a2_0, .string a2_1] 38 (0, 0)) (by (with_reducible repeat (first | refine blk_drewN ?_ _ | refine blk_drew ?_ | refine blk_alloc ?_ _)); exact BK200.out) hb); have n2_ := Aside0.mk (below_step (by repeat (first | (with_reducible first | exact HB.out | apply below_alloc | apply pw_below_drewN | apply below_drew1 | refine below_set ?_ GE200.out) | exact HB.out)) hb); clear BK200; clear HB; have HO218 := n0_; have BK200 := n1_; have HB := n2_; clear n0_ n1_ n2_; (try clear hb); (try clear hb2); (try clear hk); (try clear hi); (try clear ho0); have hcz42_0 : w41.cell? ⟨gb200, 0, none⟩ = some (.int .u16 a2_0) := (blk_cell BK200.out 0).trans rfl; have hcz42_1 : w41.cell? ⟨gb200, 1, none⟩ = some (.string a2_1) := (blk_cell BK200.out 1).trans rfl; have hfz42_0 := blk_frozen BK200.out 0; have hfz42_1 := blk_frozen BK200.out 1; obtain ⟨Ao43, co43, eo43⟩ := Kd.R_slice HO218.out; subst eo43) | ((with_reducible refine gate_callee (f := 13) rfl ?_); refine goesL_ (some 76) rfl rfl Try.func13 (by kernel_rfl) rfl #[.slice Ao43 t216.length co43, .int .u16 a2_0] rfl (by (try simp only [List.map_toArray, List.map_cons, List.map_nil]); first | done | rfl | (simp only [List.length_drop, List.length_take]; rfl)) ?_; (with_reducible refine (extra_Find.calls _ _ t216 a2_0 t219 true _ ?side1 ?side2 A36.out).mono ?_); (case side1 => repeat (first | exact (Kd.R_reads' HO218.out).2.2 | (with_reducible refine Kd.C_alloc ?_ _) | (with_reducible refine Kd.C_drewN ?_ _) | (with_reducible refine Kd.C_drew ?_))); (case side2 => exact (Kd.R_reads' HO218.out).2.1); rintro e w44 ⟨rfl, hb⟩; refine ⟨_, rfl, ?_⟩; have n0_ := Aside0.mk (Kd.R_below (by (with_reducible repeat (first | apply Kd.R_alloc | apply Kd.R_drewN | apply Kd.R_drew)); exact HO218.out) hb); have n1_ := Aside0.mk (blk_below (g := gb200) (o := .cells #[.int .u16 a2_0, .string a2_1] 38 (0, 0)) (by (with_reducible repeat (first | refine blk_drewN ?_ _ | refine blk_drew ?_ | refine blk_alloc ?_ _)); exact BK200.out) hb); have n2_ := Aside0.mk (below_step (by repeat (first | (with_reducible first | exact HB.out | apply below_alloc | apply pw_below_drewN | apply below_drew1 | refine below_set ?_ GE200.out) | exact HB.out)) hb); clear HO218; clear BK200; clear HB; have HO218 := n0_; have BK200 := n1_; have HB := n2_; clear n0_ n1_ n2_; (try clear hb); (try clear hb2); (try clear hk); (try clear hi); have hcz45_0 : w44.cell? ⟨gb200, 0, none⟩ = some (.int .u16 a2_0) := (blk_cell BK200.out 0).trans rfl; have hcz45_1 : w44.cell? ⟨gb200, 1, none⟩ = some (.string a2_1) := (blk_cell BK200.out 1).trans rfl; have hfz45_0 := blk_frozen BK200.out 0; have hfz45_1 := blk_frozen BK200.out 1) | ((with_reducible refine gate_dst (N := 90) rfl ?_); (try (refine gate_guard (by rfl) ?_; dsimp only)); refine Kd.R_lit (Kd.int .u16) _ 36 ?hg (N := 90) ?hd (xs := ([a2_0] : List Int)) (inner := [.int .u16 a2_0]) (ok := fun _ => True) (okp := fun _ => True) ?hr ?hp (fun _ hk => hk) trivial (Below.refl _ _) (Nat.le_refl _) (by simp) ?_; (case hd => rfl); (case hg => rfl); (case hr => first | (go_simp; done) | (go_simp; rfl)); (case hp => exact (Reps.one (show Kd.M (Kd.int .u16) _ _ _ a2_0 [.int .u16 a2_0] from rfl) (Reps.none _ _))); intro v222 w46 ho47 hb hg_ hnew_; clear hg_ hnew_; (first | rw [← Ny221.out] at ho47 | (simp only [Int.reduceToNat] at ho47; rw [← Ny221.out] at ho47)); have n0_ := Aside0.mk (Kd.R_below (by (with_reducible repeat (first | apply Kd.R_alloc | apply Kd.R_drewN | apply Kd.R_drew)); exact HO218.out) hb); have n1_ := Aside0.mk (Kd.R_lower ho47 (below_size (by repeat (first | (with_reducible first | exact HB.out | apply below_alloc | apply pw_below_drewN | apply below_drew1 | refine below_set ?_ GE200.out) | exact HB.out)))); have n2_ := Aside0.mk (blk_below (g := gb200) (o := .cells #[.int .u16 a2_0, .string a2_1] 38 (0, 0)) (by (with_reducible repeat (first | refine blk_drewN ?_ _ | refine blk_drew ?_ | refine blk_alloc ?_ _)); exact BK200.out) hb); have n3_ := Aside0.mk (below_step (by repeat (first | (with_reducible first | exact HB.out | apply below_alloc | apply pw_below_drewN | apply below_drew1 | refine below_set ?_ GE200.out) | exact HB.out)) hb); clear HO218; clear BK200; clear HB; have HO218 := n0_; have HO223 := n1_; have BK200 := n2_; have HB := n3_; clear n0_ n1_ n2_ n3_; clear hb ho47; obtain ⟨Ao48, co48, eo48⟩ := Kd.R_slice HO223.out; subst eo48) | (go_at_call 17; (with_reducible refine (extra_Without.calls kj27 _ _ t216 _ _ y221 t224 _ ?side1 ?side2 ?side3 ?side4 A39.out).mono ?_); (case side1 => repeat (first | exact (Kd.R_reads' HO218.out).2.2 | (with_reducible refine Kd.C_alloc ?_ _) | (with_reducible refine Kd.C_drewN ?_ _) | (with_reducible refine Kd.C_drew ?_))); (case side2 => exact (Kd.R_reads' HO218.out).2.1); (case side3 => repeat (first | exact (Kd.R_reads' HO223.out).2.2 | (with_reducible refine Kd.C_alloc ?_ _) | (with_reducible refine Kd.C_drewN ?_ _) | (with_reducible refine Kd.C_drew ?_))); (case side4 => exact (Kd.R_reads' HO223.out).2.1); rintro e w49 ⟨v225, rfl, ho0, hb⟩; have n0_ := Aside0.mk (Kd.R_elder' (by (with_reducible repeat (first | apply Kd.R_alloc | apply Kd.R_drewN | apply Kd.R_drew)); exact HO218.out) (Kd.R_base ho0) hb); have n1_ := Aside0.mk (Kd.R_below (by (with_reducible repeat (first | apply Kd.R_alloc | apply Kd.R_drewN | apply Kd.R_drew)); exact HO223.out) hb); have n2_ := Aside0.mk (Kd.R_lower (Kd.R_newB (Kd.R_new' ho0 (Kd.R_lt (by (with_reducible repeat (first | apply Kd.R_alloc | apply Kd.R_drewN | apply Kd.R_drew)); exact HO218.out))) (g := gb200) (o := .cells #[.int .u16 a2_0, .string a2_1] 38 (0, 0)) (by (with_reducible repeat (first | refine blk_drewN ?_ _ | refine blk_drew ?_ | refine blk_alloc ?_ _)); exact BK200.out)) (below_size (by repeat (first | (with_reducible first | exact HB.out | apply below_alloc | apply pw_below_drewN | apply below_drew1 | refine below_set ?_ GE200.out) | exact HB.out)))); have n3_ := Aside0.mk (blk_below (g := gb200) (o := .cells #[.int .u16 a2_0, .string a2_1] 38 (0, 0)) (by (with_reducible repeat (first | refine blk_drewN ?_ _ | refine blk_drew ?_ | refine blk_alloc ?_ _)); exact BK200.out) hb); have n4_ := Aside0.mk (below_step (by repeat (first | (with_reducible first | exact HB.out | apply below_alloc | apply pw_below_drewN | apply below_drew1 | refine below_set ?_ GE200.out) | exact HB.out)) hb); clear HO218; clear HO223; clear BK200; clear HB; have HO218 := n0_; have HO223 := n1_; have HO226 := n2_; have BK200 := n3_; have HB := n4_; clear n0_ n1_ n2_ n3_ n4_; (try clear hb); (try clear hb2); (try clear hk); (try clear hi); (try clear ho0); obtain ⟨Ao50, co50, eo50⟩ := Kd.R_slice HO226.out; subst eo50))
                        go_ret
                        exact ⟨by first | rfl | (simp [errW_none, errW_some] <;> rfl) | (simp [*, errW_none, errW_some] <;> rfl), by repeat (first | (with_reducible first | exact HB.out | apply below_alloc | apply pw_below_drewN | apply below_drew1 | refine below_set ?_ GE200.out) | exact HB.out)⟩
                      · rw [if_neg c38] at H
                        have c38b0 : (t219.toList == a2_1.toList) = false := beq_eq_false_iff_ne.mpr c38
                        have c38b1 : (t219.toList != a2_1.toList) = true := bne_iff_ne.mpr c38
                        obtain rfl := Option.some.inj H
                        have hcz51_0 : wc.cell? ⟨gb200, 0, none⟩ = some (.int .u16 a2_0) := (blk_cell BK200.out 0).trans rfl
                        have hcz51_1 : wc.cell? ⟨gb200, 1, none⟩ = some (.string a2_1) := (blk_cell BK200.out 1).trans rfl
                        have hfz51_0 := blk_frozen BK200.out 0
                        have hfz51_1 := blk_frozen BK200.out 1
                        go_wp2_with (first | ((with_reducible refine gate_callee (f := 19) rfl ?_); refine goesL_ (some 71) rfl rfl Try.func19 (by kernel_rfl) rfl #[.slice A1 l1.length c1, .agg #[.int .u16 a2_0, .string a2_1]] rfl (by (try simp only [List.map_toArray, List.map_cons, List.map_nil]); first | done | rfl | (simp only [List.length_drop, List.length_take]; rfl)) ?_; (with_reducible refine (extra_Put.calls kj27 (fun k_ => k_ < w.heap.size) _ _ l1 a2_0 a2_1 t216 _ ?side1 A35.out).mono ?_); (case side1 => exact Kd.V_mk HC1.out (Kd.F_below (Kd.C_F k38_heap HR1.out) (by repeat (first | (with_reducible first | exact HB.out | apply below_alloc | apply pw_below_drewN | apply below_drew1 | refine below_set ?_ GE200.out) | exact HB.out)))); rintro e w52 ⟨v217, rfl, ho0, hb⟩; refine ⟨_, rfl, ?_⟩; have n0_ := Aside0.mk (Kd.R_lower (Kd.R_newB (Kd.R_mono (ok' := fun k_ => True) ho0 (fun _ hk_ => trivial)) (g := gb200) (o := .cells #[.int .u16 a2_0, .string a2_1] 38 (0, 0)) (by (with_reducible repeat (first | refine blk_drewN ?_ _ | refine blk_drew ?_ | refine blk_alloc ?_ _)); exact BK200.out)) (below_size (by repeat (first | (with_reducible first | exact HB.out | apply below_alloc | apply pw_below_drewN | apply below_drew1 | refine below_set ?_ GE200.out) | exact HB.out)))); have n1_ := Aside0.mk (blk_below (g := gb200) (o := .cells #[.int .u16 a2_0, .string a2_1] 38 (0, 0)) (by (with_reducible repeat (first | refine blk_drewN ?_ _ | refine blk_drew ?_ | refine blk_alloc ?_ _)); exact BK200.out) hb); have n2_ := Aside0.mk (below_step (by repeat (first | (with_reducible first | exact HB.out | apply below_alloc | apply pw_below_drewN | apply below_drew1 | refine below_set ?_ GE200.out) | exact HB.out)) hb); clear BK200; clear HB; have HO218 := n0_; have BK200 := n1_; have HB := n2_; clear n0_ n1_ n2_; (try clear hb); (try clear hb2); (try clear hk); (try clear hi); (try clear ho0); have hcz53_0 : w52.cell? ⟨gb200, 0, none⟩ = some (.int .u16 a2_0) := (blk_cell BK200.out 0).trans rfl; have hcz53_1 : w52.cell? ⟨gb200, 1, none⟩ = some (.string a2_1) := (blk_cell BK200.out 1).trans rfl; have hfz53_0 := blk_frozen BK200.out 0; have hfz53_1 := blk_frozen BK200.out 1; obtain ⟨Ao54, co54, eo54⟩ := Kd.R_slice HO218.out; subst eo54) | ((with_reducible refine gate_callee (f := 13) rfl ?_); refine goesL_ (some 76) rfl rfl Try.func13 (by kernel_rfl) rfl #[.slice Ao54 t216.length co54, .int .u16 a2_0] rfl (by (try simp only [List.map_toArray, List.map_cons, List.map_nil]); first | done | rfl | (simp only [List.length_drop, List.length_take]; rfl)) ?_; (with_reducible refine (extra_Find.calls _ _ t216 a2_0 t219 true _ ?side1 ?side2 A36.out).mono ?_); (case side1 => repeat (first | exact (Kd.R_reads' HO218.out).2.2 | (with_reducible refine Kd.C_alloc ?_ _) | (with_reducible refine Kd.C_drewN ?_ _) | (with_reducible refine Kd.C_drew ?_))); (case side2 => exact (Kd.R_reads' HO218.out).2.1); rintro e w55 ⟨rfl, hb⟩; refine ⟨_, rfl, ?_⟩; have n0_ := Aside0.mk (Kd.R_below (by (with_reducible repeat (first | apply Kd.R_alloc | apply Kd.R_drewN | apply Kd.R_drew)); exact HO218.out) hb); have n1_ := Aside0.mk (blk_below (g := gb200) (o := .cells #[.int .u16 a2_0, .string a2_1] 38 (0, 0)) (by (with_reducible repeat (first | refine blk_drewN ?_ _ | refine blk_drew ?_ | refine blk_alloc ?_ _)); exact BK200.out) hb); have n2_ := Aside0.mk (below_step (by repeat (first | (with_reducible first | exact HB.out | apply below_alloc | apply pw_below_drewN | apply below_drew1 | refine below_set ?_ GE200.out) | exact HB.out)) hb); clear HO218; clear BK200; clear HB; have HO218 := n0_; have BK200 := n1_; have HB := n2_; clear n0_ n1_ n2_; (try clear hb); (try clear hb2); (try clear hk); (try clear hi); have hcz56_0 : w55.cell? ⟨gb200, 0, none⟩ = some (.int .u16 a2_0) := (blk_cell BK200.out 0).trans rfl; have hcz56_1 : w55.cell? ⟨gb200, 1, none⟩ = some (.string a2_1) := (blk_cell BK200.out 1).trans rfl; have hfz56_0 := blk_frozen BK200.out 0; have hfz56_1 := blk_frozen BK200.out 1))
                        go_ret
                        exact ⟨by first | rfl | (simp [errW_none, errW_some] <;> rfl) | (simp [*, errW_none, errW_some] <;> rfl), by repeat (first | (with_reducible first | exact HB.out | apply below_alloc | apply pw_below_drewN | apply below_drew1 | refine below_set ?_ GE200.out) | exact HB.out)⟩
                    · replace c37 := Bool.eq_false_iff.mpr c37
                      subst c37
                      have H1 : (some false) = some r := by rw [if_neg (show ¬ (false = true) by decide)] at H; exact H
                      clear H
                      have H := H1
                      clear H1
                      obtain rfl := Option.some.inj H
                      have hcz57_0 : wc.cell? ⟨gb200, 0, none⟩ = some (.int .u16 a2_0) := (blk_cell BK200.out 0).trans rfl
                      have hcz57_1 : wc.cell? ⟨gb200, 1, none⟩ = some (.string a2_1) := (blk_cell BK200.out 1).trans rfl
                      have hfz57_0 := blk_frozen BK200.out 0
                      have hfz57_1 := blk_frozen BK200.out 1
                      go_wp2_with (first | ((with_reducible refine gate_callee (f := 19) rfl ?_); refine goesL_ (some 71) rfl rfl Try.func19 (by kernel_rfl) rfl #[.slice A1 l1.length c1, .agg #[.int .u16 a2_0, .string a2_1]] rfl (by (try simp only [List.map_toArray, List.map_cons, List.map_nil]); first | done | rfl | (simp only [List.length_drop, List.length_take]; rfl)) ?_; (with_reducible refine (extra_Put.calls kj27 (fun k_ => k_ < w.heap.size) _ _ l1 a2_0 a2_1 t216 _ ?side1 A35.out).mono ?_); (case side1 => exact Kd.V_mk HC1.out (Kd.F_below (Kd.C_F k38_heap HR1.out) (by repeat (first | (with_reducible first | exact HB.out | apply below_alloc | apply pw_below_drewN | apply below_drew1 | refine below_set ?_ GE200.out) | exact HB.out)))); rintro e w58 ⟨v217, rfl, ho0, hb⟩; refine ⟨_, rfl, ?_⟩; have n0_ := Aside0.mk (Kd.R_lower (Kd.R_newB (Kd.R_mono (ok' := fun k_ => True) ho0 (fun _ hk_ => trivial)) (g := gb200) (o := .cells #[.int .u16 a2_0, .string a2_1] 38 (0, 0)) (by (with_reducible repeat (first | refine blk_drewN ?_ _ | refine blk_drew ?_ | refine blk_alloc ?_ _)); exact BK200.out)) (below_size (by repeat (first | (with_reducible first | exact HB.out | apply below_alloc | apply pw_below_drewN | apply below_drew1 | refine below_set ?_ GE200.out) | exact HB.out)))); have n1_ := Aside0.mk (blk_below (g := gb200) (o := .cells #[.int .u16 a2_0, .string a2_1] 38 (0, 0)) (by (with_reducible repeat (first | refine blk_drewN ?_ _ | refine blk_drew ?_ | refine blk_alloc ?_ _)); exact BK200.out) hb); have n2_ := Aside0.mk (below_step (by repeat (first | (with_reducible first | exact HB.out | apply below_alloc | apply pw_below_drewN | apply below_drew1 | refine below_set ?_ GE200.out) | exact HB.out)) hb); clear BK200; clear HB; have HO218 := n0_; have BK200 := n1_; have HB := n2_; clear n0_ n1_ n2_; (try clear hb); (try clear hb2); (try clear hk); (try clear hi); (try clear ho0); have hcz59_0 : w58.cell? ⟨gb200, 0, none⟩ = some (.int .u16 a2_0) := (blk_cell BK200.out 0).trans rfl; have hcz59_1 : w58.cell? ⟨gb200, 1, none⟩ = some (.string a2_1) := (blk_cell BK200.out 1).trans rfl; have hfz59_0 := blk_frozen BK200.out 0; have hfz59_1 := blk_frozen BK200.out 1; obtain ⟨Ao60, co60, eo60⟩ := Kd.R_slice HO218.out; subst eo60) | ((with_reducible refine gate_callee (f := 13) rfl ?_); refine goesL_ (some 76) rfl rfl Try.func13 (by kernel_rfl) rfl #[.slice Ao60 t216.length co60, .int .u16 a2_0] rfl (by (try simp only [List.map_toArray, List.map_cons, List.map_nil]); first | done | rfl | (simp only [List.length_drop, List.length_take]; rfl)) ?_; (with_reducible refine (extra_Find.calls _ _ t216 a2_0 t219 false _ ?side1 ?side2 A36.out).mono ?_); (case side1 => repeat (first | exact (Kd.R_reads' HO218.out).2.2 | (with_reducible refine Kd.C_alloc ?_ _) | (with_reducible refine Kd.C_drewN ?_ _) | (with_reducible refine Kd.C_drew ?_))); (case side2 => exact (Kd.R_reads' HO218.out).2.1); rintro e w61 ⟨rfl, hb⟩; refine ⟨_, rfl, ?_⟩; have n0_ := Aside0.mk (Kd.R_below (by (with_reducible repeat (first | apply Kd.R_alloc | apply Kd.R_drewN | apply Kd.R_drew)); exact HO218.out) hb); have n1_ := Aside0.mk (blk_below (g := gb200) (o := .cells #[.int .u16 a2_0, .string a2_1] 38 (0, 0)) (by (with_reducible repeat (first | refine blk_drewN ?_ _ | refine blk_drew ?_ | refine blk_alloc ?_ _)); exact BK200.out) hb); have n2_ := Aside0.mk (below_step (by repeat (first | (with_reducible first | exact HB.out | apply below_alloc | apply pw_below_drewN | apply below_drew1 | refine below_set ?_ GE200.out) | exact HB.out)) hb); clear HO218; clear BK200; clear HB; have HO218 := n0_; have BK200 := n1_; have HB := n2_; clear n0_ n1_ n2_; (try clear hb); (try clear hb2); (try clear hk); (try clear hi)))
                      go_ret
                      exact ⟨by first | rfl | (simp [errW_none, errW_some] <;> rfl) | (simp [*, errW_none, errW_some] <;> rfl), by repeat (first | (with_reducible first | exact HB.out | apply below_alloc | apply pw_below_drewN | apply below_drew1 | refine below_set ?_ GE200.out) | exact HB.out)⟩
  · replace c5 := Bool.eq_false_iff.mpr c5
    subst c5
    have H1 : (some false) = some r := by rw [if_neg (show ¬ (false = true) by decide)] at H; exact H
    clear H
    have H := H1
    clear H1
    obtain rfl := Option.some.inj H
    go_enter Try.func5, Try.ntmps5
    go_wp2_with (first | ((with_reducible refine gate_dst (N := 5) rfl ?_); (try (refine gate_guard (by rfl) ?_; dsimp only)); refine box_event ?hg (N := 5) ?hd (cs := #[.int .u16 a2_0, .string a2_1]) (t := 38) ?hr ?_; (case hd => rfl); (case hg => rfl); (case hr => first | (go_simp; done) | (go_simp; rfl)); intro gb200 hg w62 hbox hb; have n0_ := Aside0.mk (below_step (by repeat (first | (with_reducible first | exact HB.out | apply below_alloc | apply pw_below_drewN | apply below_drew1) | exact HB.out)) hb); have n1_ := Aside0.mk (hbox); have n2_ := Aside0.mk ((by rw [hg]; exact (below_size (by repeat (first | (with_reducible first | exact HB.out | apply below_alloc | apply pw_below_drewN | apply below_drew1) | exact HB.out))) : w.heap.size ≤ gb200)); have n3_ := Aside0.mk ((by rw [hg]; exact (below_size (by repeat (first | (with_reducible first | exact HB.out | apply below_alloc | apply pw_below_drewN | apply below_drew1) | exact HB.out))) : w.heap.size ≤ gb200)); clear HB; have HB := n0_; have BK200 := n1_; have GW200 := n2_; have GE200 := n3_; clear n0_ n1_ n2_ n3_; clear hb hbox hg) | ((with_reducible refine gate_callee (f := 6) rfl ?_); refine goesL_ (some 18) rfl rfl Try.func6 (by kernel_rfl) rfl #[] rfl (by (try simp only [List.map_toArray, List.map_cons, List.map_nil]); first | done | rfl | (simp only [List.length_drop, List.length_take]; rfl)) ?_; (with_reducible refine (portmanteaulaw13_awake.calls k  false _ A4.out).mono ?_); rintro e w63 ⟨rfl, hb⟩; refine ⟨_, rfl, ?_⟩; have n0_ := Aside0.mk (blk_below (g := gb200) (o := .cells #[.int .u16 a2_0, .string a2_1] 38 (0, 0)) (by (with_reducible repeat (first | refine blk_drewN ?_ _ | refine blk_drew ?_ | refine blk_alloc ?_ _)); exact BK200.out) hb); have n1_ := Aside0.mk (below_step (by repeat (first | (with_reducible first | exact HB.out | apply below_alloc | apply pw_below_drewN | apply below_drew1 | refine below_set ?_ GE200.out) | exact HB.out)) hb); clear BK200; clear HB; have BK200 := n0_; have HB := n1_; clear n0_ n1_; (try clear hb); (try clear hb2); (try clear hk); (try clear hi)))
    go_ret
    exact ⟨by first | rfl | (simp [errW_none, errW_some] <;> rfl) | (simp [*, errW_none, errW_some] <;> rfl), by repeat (first | (with_reducible first | exact HB.out | apply below_alloc | apply pw_below_drewN | apply below_drew1 | refine below_set ?_ GE200.out) | exact HB.out)⟩

end Go.Proofs.Ytdlcihbfdbdbbaa.P
