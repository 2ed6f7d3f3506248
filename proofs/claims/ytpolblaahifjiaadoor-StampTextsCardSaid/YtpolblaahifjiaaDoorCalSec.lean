/- The time of a date: the program's and the reference's. -/
import Derived.Test.YtpolblaahifjiaaDoorCalRef
namespace Go.Proofs.YtpolblaahifjiaaDoor.Cal
set_option linter.unusedVariables false
set_option linter.unusedSimpArgs false
open Go Go.RowKit Go.Proofs Go.Proofs.YtpolblaahifjiaaDoor.P Go.Proofs.YtpolblaahifjiaaDoorW.PrintWords Go.Proofs.YtpolblaahifjiaaDoorW.PrintLast Go.Proofs.YtpolblaahifjiaaDoorW.PrintMore
/-- A date with its time of day. -/
structure OkT (y m d h mi s : Int) : Prop extends Ok y m d where
  h1 : 0 ≤ h
  h2 : h ≤ 23
  i1 : 0 ≤ mi
  i2 : mi ≤ 59
  s1 : 0 ≤ s
  s2 : s ≤ 59
def secs (y m d h mi s : Int) : Int := (dn y m d - 719162) * 86400 + h * 3600 + mi * 60 + s
theorem days_far {y m d : Int} (y1 : 1 ≤ y) (y2 : y ≤ 9999) (m1 : 1 ≤ m) (m2 : m ≤ 12) (d1 : 1 ≤ d) (d2 : d ≤ 31) : 0 ≤ dn y m d ∧ dn y m d < 3652059 := by
  by_cases hd : d ≤ long y m
  · exact dn_le ⟨y1, y2, m1, m2, d1, hd⟩
  · have hm : m < 12 := by
      apply Int.lt_of_not_ge
      intro hge
      have : m = 12 := by omega
      subst this
      have : long y 12 = 31 := by unfold long; rw [if_neg (by decide), if_neg (by decide)]
      omega
    have a := md_le (y := y) (m := m + 1) (by omega) (by omega)
    have b := md_next (y := y) m1 m2
    have c := long_le y m
    have e := long_le y (m + 1)
    have f := md_le (y := y) m1 m2
    have h2 := yd_next y
    have h3 : yd y ≤ yd 9999 := yd_mono y2
    have h4 : yd 0 ≤ yd (y - 1) := yd_mono (by omega)
    have h5 : yd 9999 = 3652059 := by decide
    have h6 : yd 0 = 0 := by decide
    unfold dn
    omega
theorem sec_ok {y m d h mi s : Int} (k : OkT y m d h mi s) : stamp_Date_Seconds.f y m d h mi s = some (secs y m d h mi s, 0) := by
  have y1 := k.y1; have y2 := k.y2; have m1 := k.m1; have m2 := k.m2; have d1 := k.d1; have d2 := k.d2
  have h1 := k.h1; have h2 := k.h2; have i1 := k.i1; have i2 := k.i2; have s1 := k.s1; have s2 := k.s2
  have hl := (long_le y m).2
  have hd := dn_le k.toOk
  unfold stamp_Date_Seconds.f
  rw [if_pos (by omega), days_eq y m d y1 y2 m1 m2 d1 (by omega), Option.bind_some, civil_eq k.toOk, Option.bind_some, if_pos ⟨rfl, rfl, rfl⟩]
  unfold secs
  generalize dn y m d = D at hd ⊢
  clear k hl d2
  rw [w_id (h * 3600) (by omega), w_id (mi * 60) (by omega), w_id (h * 3600 + mi * 60) (by omega), w_id (h * 3600 + mi * 60 + s) (by omega), w_id ((D - 719162) * 86400) (by omega), w_id _ (by omega)]
  congr 2
  omega
theorem sec_bad {y m d h mi s : Int} (k : ¬ OkT y m d h mi s) : stamp_Date_Seconds.f y m d h mi s = some (0, 23) := by
  unfold stamp_Date_Seconds.f
  split
  · rename_i c
    obtain ⟨⟨y1, y2⟩, ⟨m1, m2⟩, ⟨d1, d2⟩, ⟨h1, h2⟩, ⟨i1, i2⟩, ⟨s1, s2⟩⟩ := c
    have hdl : ¬ d ≤ long y m := fun hd => k ⟨⟨y1, y2, m1, m2, d1, hd⟩, h1, h2, i1, i2, s1, s2⟩
    have hf := days_far y1 y2 m1 m2 d1 d2
    obtain ⟨y', m', d', ok, e⟩ := every_int (dn y m d) hf.1 hf.2
    rw [days_eq y m d y1 y2 m1 m2 d1 d2, Option.bind_some, ← e, civil_eq ok, Option.bind_some, if_neg]
    rintro ⟨rfl, rfl, rfl⟩
    exact hdl ok.d2
  · rfl
theorem ref_months (k : Nat) (Y M d h mi s : Int) (hY : 1 ≤ Y ∧ Y ≤ 9999) (hM : M ≤ 12) (hd : 1 ≤ d ∧ d ≤ 31) (hh : 0 ≤ h ∧ h ≤ 23) (hi : 0 ≤ mi ∧ mi ≤ 59) (hs : 0 ≤ s ∧ s ≤ 59) : ∀ (j : Nat) (m : Int), 1 ≤ m → m + (j : Int) = M →
    portmanteauref12_Seconds.l0 (k + j + 1) (yd (Y - 1) - 719162 + md Y m) m Y M d h mi s = some (secs Y M d h mi s, 0)
  | 0, m, h1, he => by
    obtain rfl : M = m := by omega
    have hb := yd_bounds (y := Y - 1) (by omega) (by omega)
    have hb2 := md_le (y := Y) (m := M) h1 hM
    have hlp := lp_le Y
    have hl := long_le Y M
    unfold portmanteauref12_Seconds.l0
    rw [if_neg (by omega)]
    unfold secs dn
    generalize yd (Y - 1) = A at hb ⊢
    generalize md Y M = B at hb2 ⊢
    rw [w_id (A - 719162 + B + d) (by omega), w_id (A - 719162 + B + d - 1) (by omega), w_id ((A - 719162 + B + d - 1) * 86400) (by omega), w_id (h * 3600) (by omega), w_id (mi * 60) (by omega), w_id ((A - 719162 + B + d - 1) * 86400 + h * 3600) (by omega), w_id ((A - 719162 + B + d - 1) * 86400 + h * 3600 + mi * 60) (by omega), w_id _ (by omega)]
    congr 2
    omega
  | j + 1, m, h1, he => by
    have ih := ref_months k Y M d h mi s hY hM hd hh hi hs j (m + 1) (by omega) (by omega)
    have hn := md_next (y := Y) h1 (by omega)
    have hb := yd_bounds (y := Y - 1) (by omega) (by omega)
    have hb2 := md_le (y := Y) (m := m) h1 (by omega)
    have hlp := lp_le Y
    have hl := long_le Y m
    rw [show k + (j + 1) + 1 = (k + j + 1) + 1 by omega]
    unfold portmanteauref12_Seconds.l0
    rw [if_pos (by omega), long_eq Y m (by omega) h1 (by omega), Option.bind_some, w_id (m + 1) (by omega), w_id _ (by omega), show yd (Y - 1) - 719162 + md Y m + long Y m = yd (Y - 1) - 719162 + md Y (m + 1) by omega, ih]
theorem j0_succ (k : Nat) (b : Bool) (y m d h mi s : Int) : portmanteauref12_Seconds.j0 (k + 1) b y m d h mi s = (if b = true then some (0, 23) else if h < 0 then portmanteauref12_Seconds.j1 k true y m d h mi s else if h > 23 then portmanteauref12_Seconds.j1 k true y m d h mi s else if mi < 0 then portmanteauref12_Seconds.j1 k true y m d h mi s else if mi > 59 then portmanteauref12_Seconds.j1 k true y m d h mi s else if s < 0 then portmanteauref12_Seconds.j1 k true y m d h mi s else portmanteauref12_Seconds.j1 k (decide (s > 59)) y m d h mi s) := rfl
theorem j1_succ (k : Nat) (b : Bool) (y m d h mi s : Int) : portmanteauref12_Seconds.j1 (k + 1) b y m d h mi s = (if b = true then some (0, 23) else (portmanteauref12_First.f k y).bind fun t => portmanteauref12_Seconds.l0 k (wrap64 (t - 719162)) 1 y m d h mi s) := rfl
theorem ref_j1 (k : Nat) (y m d h mi s : Int) : portmanteauref12_Seconds.j1 (k + 1) true y m d h mi s = some (0, 23) := by
  rw [j1_succ, if_pos rfl]
theorem ref_j0 (k : Nat) (y m d h mi s : Int) : portmanteauref12_Seconds.j0 (k + 1) true y m d h mi s = some (0, 23) := by
  rw [j0_succ, if_pos rfl]
theorem ref_sec_ok {y m d h mi s : Int} (k : OkT y m d h mi s) : portmanteauref12_Seconds.f 20000 y m d h mi s = some (secs y m d h mi s, 0) := by
  have y1 := k.y1; have y2 := k.y2; have m1 := k.m1; have m2 := k.m2; have d1 := k.d1; have d2 := k.d2
  have h1 := k.h1; have h2 := k.h2; have i1 := k.i1; have i2 := k.i2; have s1 := k.s1; have s2 := k.s2
  have hl := (long_le y m).2
  have hb := yd_bounds (y := y - 1) (by omega) (by omega)
  obtain ⟨jm, hjm⟩ : ∃ j : Nat, m = 1 + (j : Int) := ⟨(m - 1).toNat, by omega⟩
  have A := ref_months (19998 - jm - 1) y m d h mi s ⟨y1, y2⟩ m2 ⟨d1, by omega⟩ ⟨h1, h2⟩ ⟨i1, i2⟩ ⟨s1, s2⟩ jm 1 (by omega) (by omega)
  have e0 : md y 1 = 0 := by unfold md; rw [if_pos (by omega)]; omega
  rw [e0, show 19998 - jm - 1 + jm + 1 = 19998 by omega, show yd (y - 1) - 719162 + 0 = yd (y - 1) - 719162 by omega] at A
  unfold portmanteauref12_Seconds.f
  rw [if_neg (by omega), if_neg (by omega), if_neg (by omega), if_neg (by omega), if_neg (by omega), long_eq y m (by omega) m1 m2, Option.bind_some, decide_eq_false (by omega)]
  rw [j0_succ 19999, if_neg (by decide), if_neg (by omega), if_neg (by omega), if_neg (by omega), if_neg (by omega), if_neg (by omega), decide_eq_false (by omega)]
  rw [j1_succ 19998, if_neg (by decide), first_eq 19998 y y1 y2 (by omega), Option.bind_some, w_id _ (by omega), A]
theorem ref_sec_bad {y m d h mi s : Int} (k : ¬ OkT y m d h mi s) : portmanteauref12_Seconds.f 20000 y m d h mi s = some (0, 23) := by
  unfold portmanteauref12_Seconds.f
  by_cases y1 : y < 1
  · rw [if_pos y1, ref_j0 19999]
  rw [if_neg y1]
  by_cases y2 : y > 9999
  · rw [if_pos y2, ref_j0 19999]
  rw [if_neg y2]
  by_cases m1 : m < 1
  · rw [if_pos m1, ref_j0 19999]
  rw [if_neg m1]
  by_cases m2 : m > 12
  · rw [if_pos m2, ref_j0 19999]
  rw [if_neg m2]
  by_cases d1 : d < 1
  · rw [if_pos d1, ref_j0 19999]
  rw [if_neg d1, long_eq y m (by omega) (by omega) (by omega), Option.bind_some]
  by_cases d2 : d > long y m
  · rw [decide_eq_true d2, ref_j0 19999]
  rw [decide_eq_false d2]
  rw [j0_succ 19999, if_neg (by decide)]
  by_cases h1 : h < 0
  · rw [if_pos h1, ref_j1 19998]
  rw [if_neg h1]
  by_cases h2 : h > 23
  · rw [if_pos h2, ref_j1 19998]
  rw [if_neg h2]
  by_cases i1 : mi < 0
  · rw [if_pos i1, ref_j1 19998]
  rw [if_neg i1]
  by_cases i2 : mi > 59
  · rw [if_pos i2, ref_j1 19998]
  rw [if_neg i2]
  by_cases s1 : s < 0
  · rw [if_pos s1, ref_j1 19998]
  rw [if_neg s1]
  by_cases s2 : s > 59
  · rw [decide_eq_true s2, ref_j1 19998]
  exact absurd ⟨⟨by omega, by omega, by omega, by omega, by omega, by omega⟩, by omega, by omega, by omega, by omega, by omega, by omega⟩ k
theorem sec_same (y m d h mi s : Int) : portmanteauref12_Seconds.f 20000 y m d h mi s = stamp_Date_Seconds.f y m d h mi s := by
  by_cases k : OkT y m d h mi s
  · rw [sec_ok k, ref_sec_ok k]
  · rw [sec_bad k, ref_sec_bad k]
end Go.Proofs.YtpolblaahifjiaaDoor.Cal
