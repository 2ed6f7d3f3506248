/- The calendar: plain laws, no program in sight. -/
import Derived.RowKit
namespace Go.Proofs.YtpolblaahifjiaaDoor.Cal
set_option linter.unusedVariables false
/-- Is it a leap year: one day more. -/
def lp (y : Int) : Int := if y % 4 = 0 ∧ (y % 100 ≠ 0 ∨ y % 400 = 0) then 1 else 0
/-- The days of the years up to y. -/
def yd (y : Int) : Int := 365 * y + y / 4 - y / 100 + y / 400
/-- The days of a year ahead of a month. -/
def md (y m : Int) : Int := if m ≤ 2 then 31 * (m - 1) else (153 * (m - 3) + 2) / 5 + 59 + lp y
def long (y m : Int) : Int := if m = 2 then 28 + lp y else if m = 4 ∨ m = 6 ∨ m = 9 ∨ m = 11 then 30 else 31
def dn (y m d : Int) : Int := yd (y - 1) + md y m + d - 1
structure Ok (y m d : Int) : Prop where
  y1 : 1 ≤ y
  y2 : y ≤ 9999
  m1 : 1 ≤ m
  m2 : m ≤ 12
  d1 : 1 ≤ d
  d2 : d ≤ long y m
theorem lp_le (y : Int) : 0 ≤ lp y ∧ lp y ≤ 1 := by unfold lp; split <;> omega
theorem months {m : Int} (h1 : 1 ≤ m) (h2 : m ≤ 12) : m = 1 ∨ m = 2 ∨ m = 3 ∨ m = 4 ∨ m = 5 ∨ m = 6 ∨ m = 7 ∨ m = 8 ∨ m = 9 ∨ m = 10 ∨ m = 11 ∨ m = 12 := by omega
theorem md_next {y m : Int} (h1 : 1 ≤ m) (h2 : m ≤ 12) : md y (m + 1) = md y m + long y m := by
  rcases months h1 h2 with rfl | rfl | rfl | rfl | rfl | rfl | rfl | rfl | rfl | rfl | rfl | rfl <;> simp [md, long] <;> omega
theorem yd_next (y : Int) : yd y = yd (y - 1) + 365 + lp y := by unfold yd lp; split <;> omega
theorem md_13 (y : Int) : md y 13 = 365 + lp y := by unfold md; rw [if_neg (by omega)]; omega
theorem long_le (y m : Int) : 28 ≤ long y m ∧ long y m ≤ 31 := by
  have := lp_le y
  unfold long; split
  · omega
  · split <;> omega
theorem md_le {y m : Int} (h1 : 1 ≤ m) (h2 : m ≤ 12) : 0 ≤ md y m ∧ md y m + long y m ≤ 365 + lp y := by
  have := lp_le y
  rcases months h1 h2 with rfl | rfl | rfl | rfl | rfl | rfl | rfl | rfl | rfl | rfl | rfl | rfl <;> simp [md, long] <;> omega
theorem yd_mono {a b : Int} (h : a ≤ b) : yd a ≤ yd b := by unfold yd; omega
theorem dn_le {y m d : Int} (h : Ok y m d) : 0 ≤ dn y m d ∧ dn y m d < 3652059 := by
  have h1 := md_le (y := y) h.m1 h.m2
  have h2 := yd_next y
  have h3 : yd y ≤ yd 9999 := yd_mono h.y2
  have h4 : yd 0 ≤ yd (y - 1) := yd_mono (by have := h.y1; omega)
  have h5 : yd 9999 = 3652059 := by decide
  have h6 : yd 0 = 0 := by decide
  have := h.d1; have := h.d2
  unfold dn
  omega
theorem every (n : Nat) (h : n < 3652059) : ∃ y m d, Ok y m d ∧ dn y m d = (n : Int) := by
  induction n with
  | zero => exact ⟨1, 1, 1, ⟨by decide, by decide, by decide, by decide, by decide, by decide⟩, by decide⟩
  | succ n ih =>
    obtain ⟨y, m, d, ok, e⟩ := ih (by omega)
    have y1 := ok.y1; have y2 := ok.y2; have m1 := ok.m1; have m2 := ok.m2; have d1 := ok.d1; have d2 := ok.d2
    by_cases hd : d < long y m
    · exact ⟨y, m, d + 1, ⟨y1, y2, m1, m2, by omega, by omega⟩, by unfold dn at e ⊢; omega⟩
    · have hd' : d = long y m := by omega
      have hn := md_next (y := y) m1 m2
      by_cases hm : m < 12
      · exact ⟨y, m + 1, 1, ⟨y1, y2, by omega, by omega, by omega, by have := long_le y (m + 1); omega⟩, by unfold dn at e ⊢; omega⟩
      · have hm' : m = 12 := by omega
        subst hm'
        have h13 := md_13 y
        rw [show (12 : Int) + 1 = 13 from rfl] at hn
        have hy := yd_next y
        have hnx : dn (y + 1) 1 1 = ((n + 1 : Nat) : Int) := by
          unfold dn at e ⊢
          have : md (y + 1) 1 = 0 := by unfold md; rw [if_pos (by omega)]; omega
          rw [show y + 1 - 1 = y by omega, this]
          omega
        have hy9 : y < 9999 := by
          apply Int.lt_of_not_ge
          intro hge
          have : y = 9999 := by omega
          subst this
          have : dn (9999 + 1) 1 1 = 3652059 := by decide
          omega
        exact ⟨y + 1, 1, 1, ⟨by omega, by omega, by omega, by omega, by omega, by have := long_le (y + 1) 1; omega⟩, hnx⟩
theorem every_int (x : Int) (h0 : 0 ≤ x) (h : x < 3652059) : ∃ y m d, Ok y m d ∧ dn y m d = x := by
  obtain ⟨y, m, d, a, b⟩ := every x.toNat (by omega)
  exact ⟨y, m, d, a, by omega⟩
/-- The years of an era, told by its days. -/
def yoe (e : Nat) : Nat := (e - e / 1460 + e / 36524 - e / 146096) / 365
theorem yoe_step (e : Nat) (h : e + 1 < 146097) : e - e / 1460 + e / 36524 - e / 146096 ≤ (e + 1) - (e + 1) / 1460 + (e + 1) / 36524 - (e + 1) / 146096 := by omega
theorem yoe_mono (e k : Nat) (h : e + k < 146097) : yoe e ≤ yoe (e + k) := by
  induction k with
  | zero => exact Nat.le_refl _
  | succ k ih => exact Nat.le_trans (ih (by omega)) (Nat.div_le_div_right (yoe_step (e + k) (by omega)))
def start (a : Nat) : Nat := 365 * a + a / 4 - a / 100
def last (a : Nat) : Nat := if (a + 1) % 4 = 0 ∧ ((a + 1) % 100 ≠ 0 ∨ (a + 1) % 400 = 0) then 365 else 364
theorem yoe_ends : ∀ a < 400, yoe (start a) = a ∧ yoe (start a + last a) = a ∧ start a + last a < 146097 := by decide +kernel
theorem yoe_all (a b : Nat) (ha : a < 400) (hb : b ≤ last a) : yoe (start a + b) = a := by
  obtain ⟨h1, h2, h3⟩ := yoe_ends a ha
  have l := yoe_mono (start a) b (by omega)
  have u := yoe_mono (start a + b) (last a - b) (by omega)
  rw [show start a + b + (last a - b) = start a + last a by omega] at u
  omega
end Go.Proofs.YtpolblaahifjiaaDoor.Cal
