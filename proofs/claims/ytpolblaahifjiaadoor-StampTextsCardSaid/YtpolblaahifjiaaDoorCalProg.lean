/- The program's calendar: its functions' answers are the calendar's. -/
import Derived.Test.YtpolblaahifjiaaDoorCal
import Derived.Test.YtpolblaahifjiaaDoorPx2
namespace Go.Proofs.YtpolblaahifjiaaDoor.Cal
set_option linter.unusedVariables false
set_option linter.unusedSimpArgs false
open Go Go.RowKit Go.Proofs Go.Proofs.YtpolblaahifjiaaDoor.P Go.Proofs.YtpolblaahifjiaaDoorW.PrintWords Go.Proofs.YtpolblaahifjiaaDoorW.PrintLast Go.Proofs.YtpolblaahifjiaaDoorW.PrintMore
theorem w_id (x : Int) (h : -9223372036854775808 ≤ x ∧ x ≤ 9223372036854775807) : wrap64 x = x := by unfold wrap64; omega
theorem q_id (a b : Int) (h : 0 ≤ a) : Int.tdiv a b = a / b := Int.tdiv_eq_ediv_of_nonneg h
theorem r_id (a b : Int) (h : 0 ≤ a) : Int.tmod a b = a % b := Int.tmod_eq_emod_of_nonneg h
theorem floor_nn (a b : Int) (hb : 0 < b) (hb2 : b < 1000000) (h0 : 0 ≤ a) (ha : a ≤ 9223372036854775807) : stamp_floor.f a b = some (a / b, a % b) := by
  have h1 : 0 ≤ a % b := Int.emod_nonneg a (by omega)
  have h2 : 0 ≤ a / b := Int.ediv_nonneg h0 (by omega)
  have h3 : a / b ≤ a := Int.ediv_le_self b h0
  unfold stamp_floor.f
  rw [if_neg (by omega), r_id _ _ h0, q_id _ _ h0, if_neg (by omega), w_id _ (by omega)]
theorem floor_eq (a b : Int) (hb : 0 < b) (hb2 : b < 1000000) (ha : 0 ≤ a ∧ a ≤ 9223372036854775807) : stamp_floor.f a b = some (a / b, a % b) := floor_nn a b hb hb2 ha.1 ha.2
theorem floor_day (a : Int) (ha : -9223372036854775808 ≤ a ∧ a ≤ 9223372036854775807) : stamp_floor.f a 86400 = some (a / 86400, a % 86400) := by
  by_cases h0 : 0 ≤ a
  · exact floor_nn a 86400 (by decide) (by decide) h0 ha.2
  · obtain ⟨c, rfl⟩ : ∃ c, a = -c := ⟨-a, by omega⟩
    have t1 : Int.tdiv (-c) 86400 = -(c / 86400) := by rw [Int.neg_tdiv, q_id _ _ (by omega)]
    have t2 : Int.tmod (-c) 86400 = -(c % 86400) := by rw [Int.neg_tmod, r_id _ _ (by omega)]
    unfold stamp_floor.f
    rw [if_neg (by decide), t1, t2]
    by_cases hc : c % 86400 = 0
    · rw [if_neg (by omega), w_id _ (by omega)]
      congr 2 <;> omega
    · rw [if_pos (by omega), w_id (-(c / 86400)) (by omega), w_id (-(c / 86400) - 1) (by omega), w_id (-(c % 86400) + 86400) (by omega)]
      congr 2 <;> omega
theorem days_eq (y m d : Int) (y1 : 1 ≤ y) (y2 : y ≤ 9999) (m1 : 1 ≤ m) (m2 : m ≤ 12) (d1 : 1 ≤ d) (d2 : d ≤ 31) : stamp_days.f y m d = some (dn y m d - 719162) := by
  unfold stamp_days.f
  by_cases hm : m ≤ 2
  · rw [if_pos hm, w_id (y - 1) (by omega), floor_eq _ _ (by omega) (by omega) (by omega), Option.bind_some]
    have e1 : 0 ≤ (y - 1) / 400 ∧ (y - 1) / 400 ≤ 25 := by omega
    have e2 : 0 ≤ (y - 1) % 400 ∧ (y - 1) % 400 < 400 := by omega
    simp (disch := omega) only [w_id, q_id]
    congr 1
    have : md y m = 31 * (m - 1) := by unfold md; rw [if_pos hm]
    unfold dn
    rw [this]
    unfold yd
    have : m = 1 ∨ m = 2 := by omega
    rcases this with rfl | rfl <;> omega
  · rw [if_neg hm, floor_eq _ _ (by omega) (by omega) (by omega), Option.bind_some]
    have e1 : 0 ≤ y / 400 ∧ y / 400 ≤ 25 := by omega
    have e2 : 0 ≤ y % 400 ∧ y % 400 < 400 := by omega
    simp (disch := omega) only [w_id, q_id]
    congr 1
    have : md y m = (153 * (m - 3) + 2) / 5 + 59 + lp y := by unfold md; rw [if_neg hm]
    have hy := yd_next y
    unfold dn
    rw [this]
    generalize lp y = l at hy
    have : yd (y - 1) = yd y - 365 - l := by omega
    rw [this]
    unfold yd
    omega
/-- The years and the days behind them, from March on. -/
theorem march {y m d : Int} (h : Ok y m d) : ∃ Y M : Int, dn y m d + 306 = 365 * Y + Y / 4 - Y / 100 + Y / 400 + (153 * M + 2) / 5 + (d - 1) ∧ 0 ≤ Y ∧ Y ≤ 9999 ∧ 0 ≤ M ∧ M ≤ 11 ∧ (153 * M + 2) / 5 + (d - 1) ≤ 364 + lp (Y + 1) ∧ (M < 10 → y = Y ∧ m = M + 3) ∧ (10 ≤ M → y = Y + 1 ∧ m = M - 9) ∧ (5 * ((153 * M + 2) / 5 + (d - 1)) + 2) / 153 = M := by
  have y1 := h.y1; have y2 := h.y2; have m1 := h.m1; have m2 := h.m2; have d1 := h.d1; have d2 := h.d2
  by_cases hm : m ≤ 2
  · refine ⟨y - 1, m + 9, ?_, by omega, by omega, by omega, by omega, ?_, by omega, by omega, ?_⟩
    · unfold dn md; rw [if_pos hm]
      unfold yd
      have : m = 1 ∨ m = 2 := by omega
      rcases this with rfl | rfl <;> omega
    · rw [show y - 1 + 1 = y by omega]
      have hl := lp_le y
      unfold long at d2
      have : m = 1 ∨ m = 2 := by omega
      rcases this with rfl | rfl
      · simp at d2; omega
      · simp at d2; omega
    · have hl := lp_le y
      unfold long at d2
      have : m = 1 ∨ m = 2 := by omega
      rcases this with rfl | rfl
      · simp at d2; omega
      · simp at d2; omega
  · refine ⟨y, m - 3, ?_, by omega, by omega, by omega, by omega, ?_, by omega, by omega, ?_⟩
    · have hy := yd_next y
      unfold dn md; rw [if_neg hm]
      generalize lp y = l at hy ⊢
      have : yd (y - 1) = yd y - 365 - l := by omega
      rw [this]
      unfold yd
      omega
    · have hl := lp_le (y + 1)
      have hl2 := long_le y m
      omega
    · have hlp := lp_le y
      rcases months m1 m2 with rfl | rfl | rfl | rfl | rfl | rfl | rfl | rfl | rfl | rfl | rfl | rfl <;> simp [long] at d2 hm ⊢ <;> omega
theorem last_lp (a : Nat) : ((last a : Nat) : Int) = 364 + lp ((a : Int) + 1) := by
  unfold last lp
  by_cases h : (a + 1) % 4 = 0 ∧ ((a + 1) % 100 ≠ 0 ∨ (a + 1) % 400 = 0)
  · rw [if_pos h, if_pos (by omega)]; rfl
  · rw [if_neg h, if_neg (by omega)]; rfl
theorem core (a b : Nat) (ha : a < 400) (hb : b ≤ last a) (E : Int) (hE : E = 365 * (a : Int) + (a : Int) / 4 - (a : Int) / 100 + (b : Int)) : 0 ≤ E ∧ E < 146097 ∧ (E - E / 1460 + E / 36524 - E / 146096) / 365 = (a : Int) := by
  have hy := yoe_all a b ha hb
  have h3 := (yoe_ends a ha).2.2
  obtain ⟨n, hn⟩ : ∃ n, n = start a + b := ⟨_, rfl⟩
  have hnE : (n : Int) = E := by rw [hn, hE]; unfold start; omega
  rw [← hn] at hy
  have hn2 : n < 146097 := by omega
  clear hE h3 hn hb
  subst hnE
  unfold yoe at hy
  refine ⟨by omega, by omega, ?_⟩
  subst hy
  omega
theorem era (Y : Int) (h : 0 ≤ Y) : 365 * Y + Y / 4 - Y / 100 + Y / 400 = 146097 * (Y / 400) + (365 * (Y % 400) + (Y % 400) / 4 - (Y % 400) / 100) := by omega
theorem lp_era (Y : Int) : lp (Y + 1) = lp (Y % 400 + 1) := by
  unfold lp
  rw [show (Y + 1) % 4 = (Y % 400 + 1) % 4 by omega, show (Y + 1) % 100 = (Y % 400 + 1) % 100 by omega, show (Y + 1) % 400 = (Y % 400 + 1) % 400 by omega]
theorem g1 (E a : Int) (h0 : 0 ≤ E) (h1 : E < 146097) (h : (E - E / 1460 + E / 36524 - E / 146096) / 365 = a) : wrap64 (Int.tdiv (wrap64 (wrap64 (wrap64 (E - wrap64 (Int.tdiv E 1460)) + wrap64 (Int.tdiv E 36524)) - wrap64 (Int.tdiv E 146096))) 365) = a := by
  subst h
  have a1 : 0 ≤ E / 1460 ∧ E / 1460 ≤ E := by omega
  have a2 : 0 ≤ E / 36524 ∧ E / 36524 ≤ E := by omega
  have a3 : 0 ≤ E / 146096 ∧ E / 146096 ≤ 1 := by omega
  have a4 : 0 ≤ E - E / 1460 + E / 36524 - E / 146096 := by omega
  rw [q_id E 1460 h0, q_id E 36524 h0, q_id E 146096 h0, w_id (E / 1460) (by omega), w_id (E / 36524) (by omega), w_id (E / 146096) (by omega), w_id (E - E / 1460) (by omega), w_id (E - E / 1460 + E / 36524) (by omega), w_id (E - E / 1460 + E / 36524 - E / 146096) (by omega), q_id _ _ a4]
  have a5 : E - E / 1460 + E / 36524 - E / 146096 ≤ 300000 := by omega
  generalize E - E / 1460 + E / 36524 - E / 146096 = z at a4 a5 ⊢
  exact w_id _ (by omega)
theorem g2 (E a b : Int) (h0 : 0 ≤ a) (h1 : a < 400) (hb : 0 ≤ b) (hb2 : b ≤ 365) (hE : E = 365 * a + a / 4 - a / 100 + b) : wrap64 (E - wrap64 (wrap64 (wrap64 (365 * a) + wrap64 (Int.tdiv a 4)) - wrap64 (Int.tdiv a 100))) = b := by
  rw [q_id a 4 h0, q_id a 100 h0, w_id (365 * a) (by omega), w_id (a / 4) (by omega), w_id (a / 100) (by omega), w_id (365 * a + a / 4) (by omega), w_id (365 * a + a / 4 - a / 100) (by omega), w_id _ (by omega)]
  omega
theorem g3 (b M : Int) (h0 : 0 ≤ b) (h1 : b ≤ 365) (h : (5 * b + 2) / 153 = M) : wrap64 (Int.tdiv (wrap64 (wrap64 (5 * b) + 2)) 153) = M := by
  rw [w_id (5 * b) (by omega), w_id (5 * b + 2) (by omega), q_id _ _ (by omega), h, w_id _ (by omega)]
theorem g4 (b M d : Int) (h0 : 0 ≤ M) (h1 : M ≤ 11) (hd : 1 ≤ d) (hd2 : d ≤ 31) (hb : b = (153 * M + 2) / 5 + (d - 1)) : wrap64 (wrap64 (b - wrap64 (Int.tdiv (wrap64 (wrap64 (153 * M) + 2)) 5)) + 1) = d := by
  rw [w_id (153 * M) (by omega), w_id (153 * M + 2) (by omega), q_id _ _ (by omega), w_id ((153 * M + 2) / 5) (by omega), w_id (b - (153 * M + 2) / 5) (by omega), w_id _ (by omega)]
  omega
theorem civil_eq {y m d : Int} (h : Ok y m d) : stamp_civil.f (dn y m d - 719162) = some (y, m, d) := by
  obtain ⟨Y, M, e, Y1, Y2, M1, M2, hb, c1, c2, hM⟩ := march h
  have hd := dn_le h
  have d1 := h.d1
  have d31 : d ≤ 31 := Int.le_trans h.d2 (long_le y m).2
  clear h
  generalize dn y m d = D at e hd ⊢
  obtain ⟨b, hbb⟩ : ∃ b : Nat, (b : Int) = (153 * M + 2) / 5 + (d - 1) := ⟨((153 * M + 2) / 5 + (d - 1)).toNat, by clear hb hM e c1 c2; omega⟩
  obtain ⟨a, haa⟩ : ∃ a : Nat, (a : Int) = Y % 400 := ⟨(Y % 400).toNat, by clear hb hM e c1 c2; omega⟩
  have ha : a < 400 := by clear hb hM e c1 c2; omega
  rw [lp_era, ← haa, ← hbb, ← last_lp] at hb
  have hbl : b ≤ last a := by clear hM e c1 c2; omega
  have hb365 : (b : Int) ≤ 365 := by have : last a ≤ 365 := by unfold last; split <;> omega
                                     clear hM e c1 c2; omega
  rw [← hbb] at hM
  obtain ⟨E, hE⟩ : ∃ E : Int, E = 365 * (a : Int) + (a : Int) / 4 - (a : Int) / 100 + (b : Int) := ⟨_, rfl⟩
  obtain ⟨E0, E1, E2⟩ := core a b ha hbl E hE
  rw [era Y Y1, ← haa] at e
  have hY4 : 0 ≤ Y / 400 ∧ Y / 400 ≤ 24 := by clear hM e c1 c2 hE E2 hb hbb; omega
  have hY5 : Y = 400 * (Y / 400) + (a : Int) := by clear hM e c1 c2 hE E2 hb hbb; omega
  generalize Y / 400 = er at e hY4 hY5
  have hN : D - 719162 + 719468 = 146097 * er + E := by clear hM c1 c2 E2 hb hY5; omega
  have hex : stamp_floor.f (wrap64 (D - 719162 + 719468)) 146097 = some (er, E) := by
    rw [hN]
    clear hM e c1 c2 hE E2 hb hbb hN hd haa hY5
    rw [w_id _ (by omega), floor_eq _ _ (by omega) (by omega) (by omega), show (146097 * er + E) / 146097 = er by omega, show (146097 * er + E) % 146097 = E by omega]
  unfold stamp_civil.f
  rw [hex, Option.bind_some]
  dsimp only
  rw [g1 E a E0 E1 E2, g2 E a b (by omega) (by omega) (by omega) hb365 hE, g3 b M (by omega) hb365 hM, g4 b M d M1 M2 d1 d31 hbb]
  clear hM e hE E2 hb hbb hN hd haa hex E0 E1 hbl
  by_cases hM10 : M < 10
  · obtain ⟨rfl, rfl⟩ := c1 hM10
    rw [w_id (M + 3) (by omega), if_neg (by omega), w_id (er * 400) (by omega), w_id _ (by omega)]
    congr 2
    omega
  · obtain ⟨rfl, rfl⟩ := c2 (by omega)
    rw [w_id (M + 3) (by omega), if_pos (by omega), w_id (er * 400) (by omega), w_id ((a : Int) + er * 400) (by omega), w_id _ (by omega), w_id _ (by omega)]
    congr 2
    · omega
    · congr 1; omega
/-- The date of a time. -/
theorem of_eq {y m d : Int} (t : Int) (h : Ok y m d) (hb : -9223372036854775808 ≤ t ∧ t ≤ 9223372036854775807) (ht : t / 86400 = dn y m d - 719162) : stamp_Of.f t = some (y, m, d, t % 86400 / 3600, t % 86400 / 60 % 60, t % 86400 % 60, 0) := by
  have hd := dn_le h
  have e1 : stamp_days.f 1 1 1 = some (-719162) := by rw [days_eq 1 1 1 (by decide) (by decide) (by decide) (by decide) (by decide) (by decide)]; rfl
  have e2 : stamp_days.f 9999 12 31 = some 2932896 := by rw [days_eq 9999 12 31 (by decide) (by decide) (by decide) (by decide) (by decide) (by decide)]; rfl
  unfold stamp_Of.f
  rw [floor_day t hb, Option.bind_some, e1, Option.bind_some, if_neg (by rw [ht]; omega), e2, Option.bind_some, if_neg (by rw [ht]; omega), ht, civil_eq h, Option.bind_some]
  have r0 : 0 ≤ t % 86400 ∧ t % 86400 < 86400 := by omega
  dsimp only
  generalize t % 86400 = r at r0 ⊢
  rw [q_id r 3600 r0.1, q_id r 60 r0.1, r_id r 60 r0.1, w_id (r / 3600) (by omega), w_id (r / 60) (by omega), r_id (r / 60) 60 (by omega)]
theorem of_out (t : Int) (hb : -9223372036854775808 ≤ t ∧ t ≤ 9223372036854775807) (ht : t / 86400 < -719162 ∨ 2932896 < t / 86400) : stamp_Of.f t = some (0, 0, 0, 0, 0, 0, 23) := by
  have e1 : stamp_days.f 1 1 1 = some (-719162) := by rw [days_eq 1 1 1 (by decide) (by decide) (by decide) (by decide) (by decide) (by decide)]; rfl
  have e2 : stamp_days.f 9999 12 31 = some 2932896 := by rw [days_eq 9999 12 31 (by decide) (by decide) (by decide) (by decide) (by decide) (by decide)]; rfl
  unfold stamp_Of.f
  rw [floor_day t hb, Option.bind_some, e1, Option.bind_some]
  dsimp only
  by_cases h1 : t / 86400 < -719162
  · rw [if_pos h1]
  · rw [if_neg h1, e2, Option.bind_some, if_pos (by omega)]
/-- Each time has a date, or is out of the years. -/
theorem has_date (t : Int) : (t / 86400 < -719162 ∨ 2932896 < t / 86400) ∨ ∃ y m d, Ok y m d ∧ t / 86400 = dn y m d - 719162 := by
  by_cases h : t / 86400 < -719162 ∨ 2932896 < t / 86400
  · exact Or.inl h
  · obtain ⟨y, m, d, ok, e⟩ := every_int (t / 86400 + 719162) (by omega) (by omega)
    exact Or.inr ⟨y, m, d, ok, by omega⟩
end Go.Proofs.YtpolblaahifjiaaDoor.Cal
