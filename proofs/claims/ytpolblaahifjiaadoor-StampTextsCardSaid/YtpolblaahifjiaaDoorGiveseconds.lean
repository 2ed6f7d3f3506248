/- (stamp.Date).Seconds: the time of a date: the walk. Printed by genseconds.py. -/
import Derived.Test.YtpolblaahifjiaaDoorPx2
namespace Go.Proofs.YtpolblaahifjiaaDoor.P
set_option linter.unusedVariables false
set_option linter.unusedSimpArgs false
open Go Go.RowKit Go.Proofs Go.Proofs.YtpolblaahifjiaaDoorW.PrintWords Go.Proofs.YtpolblaahifjiaaDoorW.PrintLast Go.Proofs.YtpolblaahifjiaaDoorW.PrintMore
/-- The time of a date. -/
def stamp_Date_Seconds.f (a0 a1 a2 a3 a4 a5 : Int) : Option (Int × Int) :=
  if ((1 ≤ a0 ∧ a0 ≤ 9999) ∧ (1 ≤ a1 ∧ a1 ≤ 12) ∧ (1 ≤ a2 ∧ a2 ≤ 31) ∧ (0 ≤ a3 ∧ a3 ≤ 23) ∧ (0 ≤ a4 ∧ a4 ≤ 59) ∧ (0 ≤ a5 ∧ a5 ≤ 59)) then
    (stamp_days.f a0 a1 a2).bind fun n => (stamp_civil.f n).bind fun c =>
      if c.1 = a0 ∧ c.2.1 = a1 ∧ c.2.2 = a2 then some (wrap64 (wrap64 (n * 86400) + wrap64 (wrap64 (wrap64 (a3 * 3600) + wrap64 (a4 * 60)) + a5)), 0) else some (0, 23)
  else some (0, 23)
theorem in_yes (a l m : Int) (h : l ≤ a ∧ a ≤ m) (w : World) : Calls Tryd.prog 27 #[.int .i64 a, .int .i64 l, .int .i64 m] w fun e w' => e = .returned (.bool true) ∧ w' = w := by
  have h1 : decide (l ≤ a) = true := decide_eq_true h.1
  have h2 : decide (a ≤ m) = true := decide_eq_true h.2
  clear h
  go_enter Tryd.func27, Tryd.ntmps27
  go_wp2
  go_ret
  exact ⟨rfl, rfl⟩
theorem in_no (a l m : Int) (h : ¬ (l ≤ a ∧ a ≤ m)) (w : World) : Calls Tryd.prog 27 #[.int .i64 a, .int .i64 l, .int .i64 m] w fun e w' => e = .returned (.bool false) ∧ w' = w := by
  by_cases h0 : l ≤ a
  · have h1 : decide (l ≤ a) = true := decide_eq_true h0
    have h2 : decide (a ≤ m) = false := decide_eq_false (fun k => h ⟨h0, k⟩)
    clear h h0
    go_enter Tryd.func27, Tryd.ntmps27
    go_wp2
    go_ret
    exact ⟨rfl, rfl⟩
  · have h1 : decide (l ≤ a) = false := decide_eq_false h0
    clear h h0
    go_enter Tryd.func27, Tryd.ntmps27
    go_wp2
    go_ret
    exact ⟨rfl, rfl⟩
set_option maxHeartbeats 12800000 in
set_option maxRecDepth 100000 in
theorem stamp_Date_Seconds.calls (a0 a1 a2 a3 a4 a5 r1 r2 : Int) (w : World) (h : stamp_Date_Seconds.f a0 a1 a2 a3 a4 a5 = some (r1, r2)) :
    Calls Tryd.prog 14 #[.agg #[.int .i64 a0, .int .i64 a1, .int .i64 a2, .int .i64 a3, .int .i64 a4, .int .i64 a5]] w fun e w' => e = .returned (.tuple #[.int .i64 r1, .int .i64 r2]) ∧ Below w.heap.size w w' := by
  have hu := Tryd.underlying24
  have HB := Aside0.mk (below_alloc (Below.refl w.heap.size w) (.cells #[.int .i64 a0, .int .i64 a1, .int .i64 a2, .int .i64 a3, .int .i64 a4, .int .i64 a5] 24))
  have H0 := Aside0.mk (heap_alloc_new w (.cells #[.int .i64 a0, .int .i64 a1, .int .i64 a2, .int .i64 a3, .int .i64 a4, .int .i64 a5] 24))
  by_cases c0 : 1 ≤ a0 ∧ a0 ≤ 9999
  case neg =>
    have h0 : stamp_Date_Seconds.f a0 a1 a2 a3 a4 a5 = some (0, 23) := by unfold stamp_Date_Seconds.f; rw [if_neg (by omega)]
    obtain ⟨rfl, rfl⟩ : r1 = 0 ∧ r2 = 23 := by have := h.symm.trans h0; simpa [Prod.mk.injEq] using this
    have HI0 := Aside0.mk (in_no a0 1 9999 c0)
    clear h h0 c0
    go_enter Tryd.func14, Tryd.ntmps14
    go_wp2_with (first
    | (go_at_call 27; (with_reducible refine (HI0.out _).mono ?_); rintro e w1_ ⟨rfl, rfl⟩))
    go_ret2
    exact ⟨rfl, HB.out⟩
  have HI0 := Aside0.mk (in_yes a0 1 9999 c0)
  by_cases c1 : 1 ≤ a1 ∧ a1 ≤ 12
  case neg =>
    have h1 : stamp_Date_Seconds.f a0 a1 a2 a3 a4 a5 = some (0, 23) := by unfold stamp_Date_Seconds.f; rw [if_neg (by omega)]
    obtain ⟨rfl, rfl⟩ : r1 = 0 ∧ r2 = 23 := by have := h.symm.trans h1; simpa [Prod.mk.injEq] using this
    have HI1 := Aside0.mk (in_no a1 1 12 c1)
    clear h h1 c0 c1
    go_enter Tryd.func14, Tryd.ntmps14
    go_wp2_with (first
    | (go_at_call 27; (with_reducible refine (HI0.out _).mono ?_); rintro e w1_ ⟨rfl, rfl⟩)
    | (go_at_call 27; (with_reducible refine (HI1.out _).mono ?_); rintro e w1_ ⟨rfl, rfl⟩))
    go_ret2
    exact ⟨rfl, HB.out⟩
  have HI1 := Aside0.mk (in_yes a1 1 12 c1)
  by_cases c2 : 1 ≤ a2 ∧ a2 ≤ 31
  case neg =>
    have h2 : stamp_Date_Seconds.f a0 a1 a2 a3 a4 a5 = some (0, 23) := by unfold stamp_Date_Seconds.f; rw [if_neg (by omega)]
    obtain ⟨rfl, rfl⟩ : r1 = 0 ∧ r2 = 23 := by have := h.symm.trans h2; simpa [Prod.mk.injEq] using this
    have HI2 := Aside0.mk (in_no a2 1 31 c2)
    clear h h2 c0 c1 c2
    go_enter Tryd.func14, Tryd.ntmps14
    go_wp2_with (first
    | (go_at_call 27; (with_reducible refine (HI0.out _).mono ?_); rintro e w1_ ⟨rfl, rfl⟩)
    | (go_at_call 27; (with_reducible refine (HI1.out _).mono ?_); rintro e w1_ ⟨rfl, rfl⟩)
    | (go_at_call 27; (with_reducible refine (HI2.out _).mono ?_); rintro e w1_ ⟨rfl, rfl⟩))
    go_ret2
    exact ⟨rfl, HB.out⟩
  have HI2 := Aside0.mk (in_yes a2 1 31 c2)
  by_cases c3 : 0 ≤ a3 ∧ a3 ≤ 23
  case neg =>
    have h3 : stamp_Date_Seconds.f a0 a1 a2 a3 a4 a5 = some (0, 23) := by unfold stamp_Date_Seconds.f; rw [if_neg (by omega)]
    obtain ⟨rfl, rfl⟩ : r1 = 0 ∧ r2 = 23 := by have := h.symm.trans h3; simpa [Prod.mk.injEq] using this
    have HI3 := Aside0.mk (in_no a3 0 23 c3)
    clear h h3 c0 c1 c2 c3
    go_enter Tryd.func14, Tryd.ntmps14
    go_wp2_with (first
    | (go_at_call 27; (with_reducible refine (HI0.out _).mono ?_); rintro e w1_ ⟨rfl, rfl⟩)
    | (go_at_call 27; (with_reducible refine (HI1.out _).mono ?_); rintro e w1_ ⟨rfl, rfl⟩)
    | (go_at_call 27; (with_reducible refine (HI2.out _).mono ?_); rintro e w1_ ⟨rfl, rfl⟩)
    | (go_at_call 27; (with_reducible refine (HI3.out _).mono ?_); rintro e w1_ ⟨rfl, rfl⟩))
    go_ret2
    exact ⟨rfl, HB.out⟩
  have HI3 := Aside0.mk (in_yes a3 0 23 c3)
  by_cases c4 : 0 ≤ a4 ∧ a4 ≤ 59
  case neg =>
    have h4 : stamp_Date_Seconds.f a0 a1 a2 a3 a4 a5 = some (0, 23) := by unfold stamp_Date_Seconds.f; rw [if_neg (by omega)]
    obtain ⟨rfl, rfl⟩ : r1 = 0 ∧ r2 = 23 := by have := h.symm.trans h4; simpa [Prod.mk.injEq] using this
    have HI4 := Aside0.mk (in_no a4 0 59 c4)
    clear h h4 c0 c1 c2 c3 c4
    go_enter Tryd.func14, Tryd.ntmps14
    go_wp2_with (first
    | (go_at_call 27; (with_reducible refine (HI0.out _).mono ?_); rintro e w1_ ⟨rfl, rfl⟩)
    | (go_at_call 27; (with_reducible refine (HI1.out _).mono ?_); rintro e w1_ ⟨rfl, rfl⟩)
    | (go_at_call 27; (with_reducible refine (HI2.out _).mono ?_); rintro e w1_ ⟨rfl, rfl⟩)
    | (go_at_call 27; (with_reducible refine (HI3.out _).mono ?_); rintro e w1_ ⟨rfl, rfl⟩)
    | (go_at_call 27; (with_reducible refine (HI4.out _).mono ?_); rintro e w1_ ⟨rfl, rfl⟩))
    go_ret2
    exact ⟨rfl, HB.out⟩
  have HI4 := Aside0.mk (in_yes a4 0 59 c4)
  by_cases c5 : 0 ≤ a5 ∧ a5 ≤ 59
  case neg =>
    have h5 : stamp_Date_Seconds.f a0 a1 a2 a3 a4 a5 = some (0, 23) := by unfold stamp_Date_Seconds.f; rw [if_neg (by omega)]
    obtain ⟨rfl, rfl⟩ : r1 = 0 ∧ r2 = 23 := by have := h.symm.trans h5; simpa [Prod.mk.injEq] using this
    have HI5 := Aside0.mk (in_no a5 0 59 c5)
    clear h h5 c0 c1 c2 c3 c4 c5
    go_enter Tryd.func14, Tryd.ntmps14
    go_wp2_with (first
    | (go_at_call 27; (with_reducible refine (HI0.out _).mono ?_); rintro e w1_ ⟨rfl, rfl⟩)
    | (go_at_call 27; (with_reducible refine (HI1.out _).mono ?_); rintro e w1_ ⟨rfl, rfl⟩)
    | (go_at_call 27; (with_reducible refine (HI2.out _).mono ?_); rintro e w1_ ⟨rfl, rfl⟩)
    | (go_at_call 27; (with_reducible refine (HI3.out _).mono ?_); rintro e w1_ ⟨rfl, rfl⟩)
    | (go_at_call 27; (with_reducible refine (HI4.out _).mono ?_); rintro e w1_ ⟨rfl, rfl⟩)
    | (go_at_call 27; (with_reducible refine (HI5.out _).mono ?_); rintro e w1_ ⟨rfl, rfl⟩))
    go_ret2
    exact ⟨rfl, HB.out⟩
  have HI5 := Aside0.mk (in_yes a5 0 59 c5)
  have H := Aside0.mk (show ((stamp_days.f a0 a1 a2).bind fun n => (stamp_civil.f n).bind fun c => if c.1 = a0 ∧ c.2.1 = a1 ∧ c.2.2 = a2 then some (wrap64 (wrap64 (n * 86400) + wrap64 (wrap64 (wrap64 (a3 * 3600) + wrap64 (a4 * 60)) + a5)), 0) else some (0, 23)) = some (r1, r2) by
    unfold stamp_Date_Seconds.f at h
    rwa [if_pos (by omega)] at h)
  clear h c0 c1 c2 c3 c4 c5
  obtain ⟨n, hn, H2⟩ := Option.bind_eq_some_iff.mp H.out
  obtain ⟨⟨y, m, d⟩, hcv, H3⟩ := Option.bind_eq_some_iff.mp H2
  have HN := Aside0.mk hn
  have HC := Aside0.mk hcv
  have HR := Aside0.mk H3
  clear H H2 H3 hn hcv
  go_enter Tryd.func14, Tryd.ntmps14
  go_wp2_with (first
    | (go_at_call 27; (with_reducible refine (HI0.out _).mono ?_); rintro e w1_ ⟨rfl, rfl⟩)
    | (go_at_call 27; (with_reducible refine (HI1.out _).mono ?_); rintro e w1_ ⟨rfl, rfl⟩)
    | (go_at_call 27; (with_reducible refine (HI2.out _).mono ?_); rintro e w1_ ⟨rfl, rfl⟩)
    | (go_at_call 27; (with_reducible refine (HI3.out _).mono ?_); rintro e w1_ ⟨rfl, rfl⟩)
    | (go_at_call 27; (with_reducible refine (HI4.out _).mono ?_); rintro e w1_ ⟨rfl, rfl⟩)
    | (go_at_call 27; (with_reducible refine (HI5.out _).mono ?_); rintro e w1_ ⟨rfl, rfl⟩)
    | (go_at_call 21; (with_reducible refine (stamp_days.calls a0 a1 a2 n _ HN.out).mono ?_); rintro e w2 ⟨rfl, ⟨m2, rfl⟩⟩)
    | (go_at_call 22; (with_reducible refine (stamp_civil.calls n y m d _ HC.out).mono ?_); rintro e w3 ⟨rfl, ⟨m3, rfl⟩⟩))
  all_goals (
    go_ret2
    refine ⟨?_, pw_below_drewN HB.out _⟩
    have hr := HR.out
    clear HR HN HC
    (try simp only [bne_iff_ne, ne_eq, bne_eq_false_iff_eq] at *)
    split at hr
    · first
        | (clear hr; exfalso; omega)
        | (simp only [Option.some.injEq, Prod.mk.injEq] at hr; obtain ⟨rfl, rfl⟩ := hr; rfl)
    · first
        | (clear hr; exfalso; omega)
        | (simp only [Option.some.injEq, Prod.mk.injEq] at hr; obtain ⟨rfl, rfl⟩ := hr; rfl))
end Go.Proofs.YtpolblaahifjiaaDoor.P
