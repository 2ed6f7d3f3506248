/- The reference's calendar: its functions' answers are the calendar's. -/
import Derived.Test.YtpolblaahifjiaaDoorCalProg
import Derived.Test.YtpolblaahifjiaaDoorGiveseconds
import Derived.Test.YtpolblaahifjiaaDoorPx12
import Derived.Test.YtpolblaahifjiaaDoorPx13
namespace Go.Proofs.YtpolblaahifjiaaDoor.Cal
set_option linter.unusedVariables false
set_option linter.unusedSimpArgs false
open Go Go.RowKit Go.Proofs Go.Proofs.YtpolblaahifjiaaDoor.P Go.Proofs.YtpolblaahifjiaaDoorW.PrintWords Go.Proofs.YtpolblaahifjiaaDoorW.PrintLast Go.Proofs.YtpolblaahifjiaaDoorW.PrintMore
theorem leap_eq (y : Int) (h : 0 ≤ y) : portmanteauref12_leap.f y = some (decide (lp y = 1)) := by
  unfold portmanteauref12_leap.f lp
  rw [r_id _ _ h, r_id _ _ h, r_id _ _ h]
  by_cases h4 : y % 4 = 0
  · by_cases h100 : y % 100 = 0
    · by_cases h400 : y % 400 = 0 <;> simp [h4, h100, h400]
    · simp [h4, h100]
  · simp [h4]
theorem year_eq (y : Int) (h : 0 ≤ y) : portmanteauref12_year.f y = some (365 + lp y) := by
  have := lp_le y
  unfold portmanteauref12_year.f
  rw [leap_eq y h, Option.bind_some]
  by_cases hl : lp y = 1
  · rw [if_pos (decide_eq_true hl), hl]; rfl
  · rw [if_neg (by simp [hl]), show lp y = 0 by omega]; rfl
theorem long_eq (y m : Int) (h : 0 ≤ y) (m1 : 1 ≤ m) (m2 : m ≤ 12) : portmanteauref12_Long.f y m = some (long y m) := by
  have := lp_le y
  unfold portmanteauref12_Long.f
  rw [Option.bind_some]
  by_cases hm : m = 2
  · subst hm
    rw [if_pos rfl, leap_eq y h, Option.bind_some]
    unfold long
    rw [if_pos rfl]
    by_cases hl : lp y = 1
    · rw [if_pos (decide_eq_true hl), hl]; rfl
    · rw [if_neg (by simp [hl]), show lp y = 0 by omega]; decide +kernel
  · rw [if_neg hm]
    rcases months m1 m2 with rfl | rfl | rfl | rfl | rfl | rfl | rfl | rfl | rfl | rfl | rfl | rfl <;> first | (exfalso; omega) | (simp [long]; decide +kernel)
theorem yd_bounds {y : Int} (h0 : 0 ≤ y) (h : y ≤ 9999) : 0 ≤ yd y ∧ yd y ≤ 3652059 := by
  have a := yd_mono h0
  have b := yd_mono h
  have c : yd 0 = 0 := by decide
  have d : yd 9999 = 3652059 := by decide
  omega
theorem first_loop (k : Nat) (x : Int) (hx : x ≤ 9999) : ∀ (j : Nat) (y : Int), 1 ≤ y → y + (j : Int) = x → portmanteauref12_First.l0 (k + j + 1) x (yd (y - 1)) y = some (yd (x - 1))
  | 0, y, h1, h => by
    unfold portmanteauref12_First.l0
    rw [if_neg (by omega), show x = y by omega]
  | j + 1, y, h1, h => by
    have hb := yd_bounds (y := y) (by omega) (by omega)
    have hn := yd_next y
    have ih := first_loop k x hx j (y + 1) (by omega) (by omega)
    rw [show y + 1 - 1 = y by omega] at ih
    rw [show k + (j + 1) + 1 = (k + j + 1) + 1 by omega]
    unfold portmanteauref12_First.l0
    rw [if_pos (by omega), year_eq y (by omega), Option.bind_some, w_id (yd (y - 1) + (365 + lp y)) (by omega), w_id (y + 1) (by omega), show yd (y - 1) + (365 + lp y) = yd y by omega, ih]
theorem first_eq (k : Nat) (y : Int) (h1 : 1 ≤ y) (h2 : y ≤ 9999) (hk : 10000 ≤ k) : portmanteauref12_First.f k y = some (yd (y - 1)) := by
  obtain ⟨j, hj⟩ : ∃ j : Nat, y = 1 + (j : Int) := ⟨(y - 1).toNat, by omega⟩
  unfold portmanteauref12_First.f
  have := first_loop (k - j - 1) y h2 j 1 (by omega) (by omega)
  rw [show k - j - 1 + j + 1 = k by omega] at this
  exact this
theorem of_months (k : Nat) (x Y M d : Int) (hY : 1 ≤ Y ∧ Y ≤ 9999) (hM : M ≤ 12) (hx : 0 ≤ x ∧ x < 86400) (hd : 1 ≤ d ∧ d ≤ long Y M) : ∀ (j : Nat) (m : Int), 1 ≤ m → m + (j : Int) = M →
    portmanteauref12_Of.l1 (k + j + 1) x (md Y M - md Y m + (d - 1)) Y m = some (Y, M, d, x / 3600, x % 3600 / 60, x % 60, 0)
  | 0, m, h1, h => by
    obtain rfl : M = m := by omega
    have hl := long_le Y M
    unfold portmanteauref12_Of.l1
    rw [long_eq Y M (by omega) h1 hM, Option.bind_some, if_neg (by omega), q_id x 3600 hx.1, r_id x 3600 hx.1, r_id x 60 hx.1, q_id (x % 3600) 60 (by omega), w_id (x / 3600) (by omega), w_id (x % 3600 / 60) (by omega), w_id _ (by omega), show md Y M - md Y M + (d - 1) + 1 = d by omega]
  | j + 1, m, h1, h => by
    have ih := of_months k x Y M d hY hM hx hd j (m + 1) (by omega) (by omega)
    have hn := md_next (y := Y) h1 (by omega)
    have hl := long_le Y m
    have hl2 := long_le Y M
    have hle : md Y (m + 1) ≤ md Y M := by
      clear ih hn hl hl2 hd hx
      have : ∀ (i : Nat), m + 1 + (i : Int) ≤ 12 → md Y (m + 1) ≤ md Y (m + 1 + (i : Int)) := by
        intro i
        induction i with
        | zero => intro _; simp
        | succ i ih =>
          intro hi
          have a := ih (by omega)
          have b := md_next (y := Y) (m := m + 1 + (i : Int)) (by omega) (by omega)
          have c := long_le Y (m + 1 + (i : Int))
          rw [show m + 1 + ((i + 1 : Nat) : Int) = m + 1 + (i : Int) + 1 by omega]
          omega
      have := this j (by omega)
      rwa [show m + 1 + (j : Int) = M by omega] at this
    have hb := md_le (y := Y) (m := M) (by omega) hM
    have hb2 := md_le (y := Y) (m := m) h1 (by omega)
    have hlp := lp_le Y
    rw [show k + (j + 1) + 1 = (k + j + 1) + 1 by omega]
    unfold portmanteauref12_Of.l1
    rw [long_eq Y m (by omega) h1 (by omega), Option.bind_some, if_pos (by omega), Option.bind_some, w_id (m + 1) (by omega), w_id _ (by omega), show md Y M - md Y m + (d - 1) - long Y m = md Y M - md Y (m + 1) + (d - 1) by omega, ih]
theorem of_years (k : Nat) (x Y r : Int) (hY : Y ≤ 9999) (hr : 0 ≤ r ∧ r < 365 + lp Y) : ∀ (j : Nat) (y : Int), 1 ≤ y → y + (j : Int) = Y →
    portmanteauref12_Of.l0 (k + j + 1) x (yd (Y - 1) - yd (y - 1) + r) y = portmanteauref12_Of.l1 k x r Y 1
  | 0, y, h1, h => by
    obtain rfl : Y = y := by omega
    unfold portmanteauref12_Of.l0
    rw [year_eq Y (by omega), Option.bind_some, if_neg (by omega), show yd (Y - 1) - yd (Y - 1) + r = r by omega]
  | j + 1, y, h1, h => by
    have ih := of_years k x Y r hY hr j (y + 1) (by omega) (by omega)
    have hn := yd_next y
    have hb := yd_bounds (y := Y - 1) (by omega) (by omega)
    have hb2 := yd_bounds (y := y - 1) (by omega) (by omega)
    have hm : yd y ≤ yd (Y - 1) := yd_mono (by omega)
    have hlp := lp_le Y
    have hlp2 := lp_le y
    rw [show y + 1 - 1 = y by omega] at ih
    rw [show k + (j + 1) + 1 = (k + j + 1) + 1 by omega]
    unfold portmanteauref12_Of.l0
    rw [year_eq y (by omega), Option.bind_some, if_pos (by omega), Option.bind_some, w_id (y + 1) (by omega), w_id _ (by omega), show yd (Y - 1) - yd (y - 1) + r - (365 + lp y) = yd (Y - 1) - yd y + r by omega, ih]
theorem ref_of_floor (k : Nat) (t : Int) (hb : -9223372036854775808 ≤ t ∧ t ≤ 9223372036854775807) : portmanteauref12_Of.f k t = portmanteauref12_Of.j0 k (t / 86400) (t % 86400) := by
  unfold portmanteauref12_Of.f
  by_cases h0 : 0 ≤ t
  · rw [r_id _ _ h0, q_id _ _ h0, if_neg (by omega), w_id (t / 86400) (by omega)]
  · obtain ⟨c, rfl⟩ : ∃ c, t = -c := ⟨-t, by omega⟩
    have t1 : Int.tdiv (-c) 86400 = -(c / 86400) := by rw [Int.neg_tdiv, q_id _ _ (by omega)]
    have t2 : Int.tmod (-c) 86400 = -(c % 86400) := by rw [Int.neg_tmod, r_id _ _ (by omega)]
    rw [t1, t2]
    by_cases hc : c % 86400 = 0
    · rw [if_neg (by omega), w_id _ (by omega)]
      congr 1 <;> omega
    · rw [if_pos (by omega), w_id (-(c / 86400)) (by omega), w_id (-(c / 86400) - 1) (by omega), w_id (-(c % 86400) + 86400) (by omega)]
      congr 1 <;> omega
theorem ref_of_eq {y m d : Int} (t : Int) (h : Ok y m d) (hb : -9223372036854775808 ≤ t ∧ t ≤ 9223372036854775807) (ht : t / 86400 = dn y m d - 719162) : portmanteauref12_Of.f 20000 t = some (y, m, d, t % 86400 / 3600, t % 86400 / 60 % 60, t % 86400 % 60, 0) := by
  have hd := dn_le h
  have y1 := h.y1; have y2 := h.y2; have m1 := h.m1; have m2 := h.m2; have d1 := h.d1; have d2 := h.d2
  have hml := md_le (y := y) m1 m2
  obtain ⟨jy, hjy⟩ : ∃ j : Nat, y = 1 + (j : Int) := ⟨(y - 1).toNat, by omega⟩
  obtain ⟨jm, hjm⟩ : ∃ j : Nat, m = 1 + (j : Int) := ⟨(m - 1).toNat, by omega⟩
  have hr0 : 0 ≤ t % 86400 ∧ t % 86400 < 86400 := by omega
  have A := of_years (20000 - 3 - jy) (t % 86400) y (md y m + (d - 1)) y2 (by omega) jy 1 (by omega) (by omega)
  have B := of_months (20000 - 3 - jy - jm - 1) (t % 86400) y m d ⟨y1, y2⟩ m2 hr0 ⟨d1, d2⟩ jm 1 (by omega) (by omega)
  have e0 : md y 1 = 0 := by unfold md; rw [if_pos (by omega)]; omega
  have e1 : yd (1 - 1) = 0 := by decide
  rw [e0, show md y m - 0 + (d - 1) = md y m + (d - 1) by omega, show 20000 - 3 - jy - jm - 1 + jm + 1 = 20000 - 3 - jy by omega] at B
  rw [e1, show 20000 - 3 - jy + jy + 1 = 19998 by omega, B] at A
  rw [ref_of_floor _ _ hb, ht]
  have u0 : portmanteauref12_Of.j0 20000 (dn y m d - 719162) (t % 86400) = portmanteauref12_Of.j1 19999 (dn y m d - 719162) (t % 86400) false := by
    show (if dn y m d - 719162 < -719162 then portmanteauref12_Of.j1 19999 (dn y m d - 719162) (t % 86400) true else portmanteauref12_Of.j1 19999 (dn y m d - 719162) (t % 86400) (decide (dn y m d - 719162 > 2932896))) = _
    rw [if_neg (by omega), decide_eq_false (by omega)]
  have u1 : portmanteauref12_Of.j1 19999 (dn y m d - 719162) (t % 86400) false = portmanteauref12_Of.l0 19998 (t % 86400) (dn y m d) 1 := by
    show (if false = true then some (0, 0, 0, 0, 0, 0, 23) else portmanteauref12_Of.l0 19998 (t % 86400) (wrap64 (dn y m d - 719162 + 719162)) 1) = _
    rw [if_neg (by decide), w_id _ (by omega), show dn y m d - 719162 + 719162 = dn y m d by omega]
  rw [u0, u1, show dn y m d = yd (y - 1) - 0 + (md y m + (d - 1)) by unfold dn; omega, A]
  congr 5
  have : t % 86400 % 3600 / 60 = t % 86400 / 60 % 60 := by omega
  rw [this]
theorem ref_of_out (t : Int) (hb : -9223372036854775808 ≤ t ∧ t ≤ 9223372036854775807) (ht : t / 86400 < -719162 ∨ 2932896 < t / 86400) : portmanteauref12_Of.f 20000 t = some (0, 0, 0, 0, 0, 0, 23) := by
  rw [ref_of_floor _ _ hb]
  have u0 : portmanteauref12_Of.j0 20000 (t / 86400) (t % 86400) = portmanteauref12_Of.j1 19999 (t / 86400) (t % 86400) true := by
    show (if t / 86400 < -719162 then portmanteauref12_Of.j1 19999 (t / 86400) (t % 86400) true else portmanteauref12_Of.j1 19999 (t / 86400) (t % 86400) (decide (t / 86400 > 2932896))) = _
    by_cases h1 : t / 86400 < -719162
    · rw [if_pos h1]
    · rw [if_neg h1, decide_eq_true (by omega)]
  rw [u0]
  show (if true = true then some (0, 0, 0, 0, 0, 0, 23) else portmanteauref12_Of.l0 19998 (t % 86400) (wrap64 (t / 86400 + 719162)) 1) = _
  rw [if_pos rfl]
/-- The program's and the reference's dates are the same. -/
theorem of_same (t : Int) (hb : -9223372036854775808 ≤ t ∧ t ≤ 9223372036854775807) : portmanteauref12_Of.f 20000 t = stamp_Of.f t := by
  rcases has_date t with h | ⟨y, m, d, ok, e⟩
  · rw [of_out t hb h, ref_of_out t hb h]
  · rw [of_eq t ok hb e, ref_of_eq t ok hb e]
end Go.Proofs.YtpolblaahifjiaaDoor.Cal
