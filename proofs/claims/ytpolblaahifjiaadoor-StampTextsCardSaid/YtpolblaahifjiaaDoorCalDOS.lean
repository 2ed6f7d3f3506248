/- DOS's times: the program's and the reference's. -/
import Derived.Test.YtpolblaahifjiaaDoorCalSec
import Derived.Laws.BitsLemmas
import Derived.Test.YtpolblaahifjiaaDoorGiverefdos
import Derived.Test.YtpolblaahifjiaaDoorPx14
import Derived.Test.YtpolblaahifjiaaDoorPx6
import Derived.Test.YtpolblaahifjiaaDoorPx7
import Derived.Test.YtpolblaahifjiaaDoorPx9
namespace Go.Proofs.YtpolblaahifjiaaDoor.Cal
set_option linter.unusedVariables false
set_option linter.unusedSimpArgs false
open Go Go.RowKit Go.Proofs Go.Proofs.YtpolblaahifjiaaDoor.P Go.Proofs.YtpolblaahifjiaaDoorW.PrintWords Go.Proofs.YtpolblaahifjiaaDoorW.PrintLast Go.Proofs.YtpolblaahifjiaaDoorW.PrintMore
theorem w32 (n : Int) (h₀ : 0 ≤ n) (h₁ : n < 2 ^ 32) : IntKind.u32.wrap n = n := by rw [IntKind.wrap_u32]; omega
theorem or32 (i : Nat) (x y : Int) (hx₀ : 0 ≤ x) (hx : x % 2 ^ i = 0) (hx₁ : x < 2 ^ 32) (hy₀ : 0 ≤ y) (hy : y < 2 ^ i) (hy₁ : y < 2 ^ 32) : Go.bits .or .u32 x y = x + y := bits_join .u32 32 (by decide) w32 i x y hx₀ hx hx₁ hy₀ hy hy₁
theorem and32 (i : Nat) (hi : i ≤ 32) (x : Int) (h₀ : 0 ≤ x) (h₁ : x < 2 ^ 32) : Go.bits .and .u32 x (2 ^ i - 1) = x % 2 ^ i := bits_mask .u32 32 (by decide) w32 i hi x h₀ h₁
/-- A date as DOS has it. -/
def pk (y m d h mi s : Int) : Int := ((y - 1980) * 512 + m * 32 + d) * 65536 + h * 2048 + mi * 32 + s / 2
theorem pack_eq (y m d h mi s : Int) (y1 : 1980 ≤ y) (y2 : y ≤ 2107) (m1 : 1 ≤ m) (m2 : m ≤ 12) (d1 : 1 ≤ d) (d2 : d ≤ 31) (h1 : 0 ≤ h) (h2 : h ≤ 23) (i1 : 0 ≤ mi) (i2 : mi ≤ 59) (s1 : 0 ≤ s) (s2 : s ≤ 59) : stamp_pack.f y m d h mi s = some (pk y m d h mi s) := by
  unfold stamp_pack.f
  rw [w_id (y - 1980) (by omega), show (y - 1980) % 4294967296 = y - 1980 by omega, show m % 4294967296 = m by omega, show d % 4294967296 = d by omega, show h % 4294967296 = h by omega, show mi % 4294967296 = mi by omega, show s % 4294967296 = s by omega,
    show (y - 1980) * 512 % 4294967296 = (y - 1980) * 512 by omega, show m * 32 % 4294967296 = m * 32 by omega, show h * 2048 % 4294967296 = h * 2048 by omega, show mi * 32 % 4294967296 = mi * 32 by omega]
  rw [or32 9 ((y - 1980) * 512) (m * 32) (by omega) (by omega) (by omega) (by omega) (by omega) (by omega), or32 5 ((y - 1980) * 512 + m * 32) d (by omega) (by omega) (by omega) (by omega) (by omega) (by omega),
    show ((y - 1980) * 512 + m * 32 + d) * 65536 % 4294967296 = ((y - 1980) * 512 + m * 32 + d) * 65536 by omega,
    or32 16 (((y - 1980) * 512 + m * 32 + d) * 65536) (h * 2048) (by omega) (by omega) (by omega) (by omega) (by omega) (by omega),
    or32 11 (((y - 1980) * 512 + m * 32 + d) * 65536 + h * 2048) (mi * 32) (by omega) (by omega) (by omega) (by omega) (by omega) (by omega),
    or32 5 (((y - 1980) * 512 + m * 32 + d) * 65536 + h * 2048 + mi * 32) (s / 2) (by omega) (by omega) (by omega) (by omega) (by omega) (by omega)]
  rfl
theorem pack_lo : stamp_pack.f 1980 1 1 0 0 0 = some 2162688 := by rw [pack_eq] <;> decide
theorem pack_hi : stamp_pack.f 2107 12 31 23 59 59 = some 4288659325 := by rw [pack_eq] <;> decide
theorem dn_year {y m d : Int} (h : Ok y m d) : yd (y - 1) ≤ dn y m d ∧ dn y m d < yd y := by
  have a := md_le (y := y) h.m1 h.m2
  have b := yd_next y
  have := h.d1; have := h.d2
  unfold dn
  omega
/-- The parts of a time of day. -/
theorem parts (t : Int) : 0 ≤ t % 86400 / 3600 ∧ t % 86400 / 3600 ≤ 23 ∧ 0 ≤ t % 86400 / 60 % 60 ∧ t % 86400 / 60 % 60 ≤ 59 ∧ 0 ≤ t % 86400 % 60 ∧ t % 86400 % 60 ≤ 59 ∧ (t % 86400 / 3600) * 3600 + (t % 86400 / 60 % 60) * 60 + t % 86400 % 60 = t % 86400 := by omega
theorem j0_dos (k : Nat) (e : Int) (b : Bool) (y m d h mi s : Int) : stamp_ToDOS.j0 (k + 1) e b y m d h mi s = (if b = true then stamp_ToDOS.j1 k e b y m d h mi s else if e = 0 then stamp_ToDOS.j1 k e (decide (y < 1980)) y m d h mi s else stamp_ToDOS.j1 k e false y m d h mi s) := rfl
theorem j1_dos (k : Nat) (e : Int) (b : Bool) (y m d h mi s : Int) : stamp_ToDOS.j1 (k + 1) e b y m d h mi s = (if b = true then (stamp_pack.f 1980 1 1 0 0 0).bind fun t => some t else if e = 0 then stamp_ToDOS.j2 k (decide (y > 2107)) y m d h mi s else stamp_ToDOS.j2 k true y m d h mi s) := rfl
theorem j2_dos (k : Nat) (b : Bool) (y m d h mi s : Int) : stamp_ToDOS.j2 (k + 1) b y m d h mi s = (if b = true then (stamp_pack.f 2107 12 31 23 59 59).bind fun t => some t else (stamp_pack.f y m d h mi s).bind fun t => some t) := rfl
theorem yd1979 : yd 1979 = 722814 := by decide
theorem yd2107 : yd 2107 = 769565 := by decide
/-- A time as DOS has it. -/
theorem dos_mid (k : Nat) {y m d : Int} (t : Int) (ht : t / 86400 = dn y m d - 719162) (h : Ok y m d) (hb : -9223372036854775808 ≤ t ∧ t ≤ 9223372036854775807) (y1 : 1980 ≤ y) (y2 : y ≤ 2107) : stamp_ToDOS.f (k + 3) t = some (pk y m d (t % 86400 / 3600) (t % 86400 / 60 % 60) (t % 86400 % 60)) := by
  have p := parts t
  have dl := (long_le y m).2
  have m1 := h.m1; have m2 := h.m2; have d1 := h.d1; have d2 := h.d2
  unfold stamp_ToDOS.f
  rw [of_eq t h hb ht, Option.bind_some]
  dsimp only
  rw [if_pos rfl, j0_dos (k + 2), if_neg (by decide), if_pos rfl, j1_dos (k + 1), decide_eq_false (by omega), if_neg (by decide), if_pos rfl, j2_dos k, decide_eq_false (by omega), if_neg (by decide)]
  rw [pack_eq y m d _ _ _ y1 y2 m1 m2 d1 (by omega) (by omega) (by omega) (by omega) (by omega) (by omega) (by omega)]
  rfl
theorem dos_lo (k : Nat) (t : Int) (hb : -9223372036854775808 ≤ t ∧ t ≤ 9223372036854775807) (hl : t < 315532800) : stamp_ToDOS.f (k + 3) t = some 2162688 := by
  unfold stamp_ToDOS.f
  rcases has_date t with h | ⟨y, m, d, ok, e⟩
  · rw [of_out t hb h, Option.bind_some]
    dsimp only
    rw [if_neg (by decide), j0_dos (k + 2), decide_eq_true (show t < 0 by omega), if_pos rfl, j1_dos (k + 1), if_pos rfl, pack_lo]
    rfl
  · have hy := (dn_year ok).1
    have : y < 1980 := by
      apply Int.lt_of_not_ge
      intro hge
      have a : yd 1979 ≤ yd (y - 1) := yd_mono (by omega)
      rw [yd1979] at a
      omega
    rw [of_eq t ok hb e, Option.bind_some]
    dsimp only
    rw [if_pos rfl, j0_dos (k + 2), if_neg (by decide), if_pos rfl, j1_dos (k + 1), decide_eq_true this, if_pos rfl, pack_lo]
    rfl
theorem dos_hi (k : Nat) (t : Int) (hb : -9223372036854775808 ≤ t ∧ t ≤ 9223372036854775807) (hl : 4354819200 ≤ t) : stamp_ToDOS.f (k + 3) t = some 4288659325 := by
  unfold stamp_ToDOS.f
  rcases has_date t with h | ⟨y, m, d, ok, e⟩
  · rw [of_out t hb h, Option.bind_some]
    dsimp only
    rw [if_neg (by decide), j0_dos (k + 2), decide_eq_false (show ¬ t < 0 by omega), if_neg (by decide), if_neg (by decide), j1_dos (k + 1), if_neg (by decide), if_neg (by decide), j2_dos k, if_pos rfl, pack_hi]
    rfl
  · have hy := (dn_year ok).2
    have : 2107 < y := by
      apply Int.lt_of_not_ge
      intro hge
      have a : yd y ≤ yd 2107 := yd_mono (by omega)
      rw [yd2107] at a
      omega
    rw [of_eq t ok hb e, Option.bind_some]
    dsimp only
    rw [if_pos rfl, j0_dos (k + 2), if_neg (by decide), if_pos rfl, j1_dos (k + 1), decide_eq_false (by omega), if_neg (by decide), if_pos rfl, j2_dos k, decide_eq_true (by omega), if_pos rfl, pack_hi]
    rfl
theorem mid_years {y m d : Int} (t : Int) (ok : Ok y m d) (e : t / 86400 = dn y m d - 719162) (h1 : ¬ t < 315532800) (h2 : ¬ 4354819200 ≤ t) : 1980 ≤ y ∧ y ≤ 2107 := by
  have hy := dn_year ok
  constructor
  · apply Int.le_of_not_gt
    intro hlt
    have a : yd y ≤ yd 1979 := yd_mono (by omega)
    rw [yd1979] at a
    omega
  · apply Int.le_of_not_gt
    intro hlt
    have a : yd 2107 ≤ yd (y - 1) := yd_mono (by omega)
    rw [yd2107] at a
    omega
theorem has_mid (t : Int) (h1 : ¬ t < 315532800) (h2 : ¬ 4354819200 ≤ t) : ∃ y m d, Ok y m d ∧ t / 86400 = dn y m d - 719162 := by
  rcases has_date t with h | h
  · omega
  · exact h
theorem dos_same (k : Nat) (t : Int) (hb : -9223372036854775808 ≤ t ∧ t ≤ 9223372036854775807) : portmanteauref12_ToDOS.f 20000 t = stamp_ToDOS.f (k + 3) t := by
  unfold portmanteauref12_ToDOS.f
  by_cases h1 : t < 315532800
  · rw [if_pos h1, dos_lo k t hb h1]
  rw [if_neg h1]
  by_cases h2 : 4354819200 ≤ t
  · rw [if_pos h2, dos_hi k t hb h2]
  rw [if_neg h2]
  obtain ⟨y, m, d, ok, e⟩ := has_mid t h1 h2
  obtain ⟨y1, y2⟩ := mid_years t ok e h1 h2
  have m1 := ok.m1; have m2 := ok.m2; have d1 := ok.d1; have d2 := Int.le_trans ok.d2 (long_le y m).2
  rw [dos_mid k t e ok hb y1 y2, ref_of_eq t ok hb e, Option.bind_some]
  have p := parts t
  dsimp only
  generalize t % 86400 / 3600 = h at p ⊢
  generalize t % 86400 / 60 % 60 = mi at p ⊢
  generalize t % 86400 % 60 = s at p ⊢
  clear e ok hb h1 h2
  rw [q_id s 2 (by omega), w_id (y - 1980) (by omega), w_id ((y - 1980) * 512) (by omega), w_id (m * 32) (by omega), w_id ((y - 1980) * 512 + m * 32) (by omega), w_id ((y - 1980) * 512 + m * 32 + d) (by omega), w_id (h * 2048) (by omega), w_id (mi * 32) (by omega), w_id (h * 2048 + mi * 32) (by omega), w_id (s / 2) (by omega), w_id (h * 2048 + mi * 32 + s / 2) (by omega)]
  congr 1
  unfold pk
  omega
theorem fromdos_args (n : Int) (h0 : 0 ≤ n) (h1 : n < 4294967296) : stamp_FromDOS.f n = (stamp_Date_Seconds.f (n / 33554432 + 1980) (n / 2097152 % 16) (n / 65536 % 32) (n / 2048 % 32) (n / 32 % 64) (n % 32 * 2)).bind fun c => some (c.1, c.2) := by
  unfold stamp_FromDOS.f
  have a1 := and32 4 (by decide) (n / 2097152) (by omega) (by omega)
  have a2 := and32 5 (by decide) (n / 65536) (by omega) (by omega)
  have a3 := and32 5 (by decide) (n / 2048) (by omega) (by omega)
  have a4 := and32 6 (by decide) (n / 32) (by omega) (by omega)
  have a5 := and32 5 (by decide) n h0 (by omega)
  simp only [Int.reducePow, Int.reduceSub] at a1 a2 a3 a4 a5
  rw [a1, a2, a3, a4, a5, w_id (n / 33554432) (by omega), w_id (n / 33554432 + 1980) (by omega), w_id (n / 2097152 % 16) (by omega), w_id (n / 65536 % 32) (by omega), w_id (n / 2048 % 32) (by omega), w_id (n / 32 % 64) (by omega), w_id (n % 32) (by omega), w_id (n % 32 * 2) (by omega)]
theorem some_pair (o : Option (Int × Int)) : (o.bind fun c => some (c.1, c.2)) = o := by cases o <;> rfl
theorem fromdos_eq (n : Int) (h0 : 0 ≤ n) (h1 : n < 4294967296) : stamp_FromDOS.f n = stamp_Date_Seconds.f (n / 33554432 + 1980) (n / 2097152 % 16) (n / 65536 % 32) (n / 2048 % 32) (n / 32 % 64) (n % 32 * 2) := by
  rw [fromdos_args n h0 h1, some_pair]
theorem fromdos_same (n : Int) (h0 : 0 ≤ n) (h1 : n < 4294967296) : portmanteauref12_FromDOS.f n = stamp_FromDOS.f n := by
  unfold portmanteauref12_FromDOS.f
  rw [if_pos ⟨h0, h1⟩, sec_same, fromdos_eq n h0 h1, show n / 65536 / 512 = n / 33554432 by omega, show n / 65536 / 32 % 16 = n / 2097152 % 16 by omega, show n % 65536 / 2048 = n / 2048 % 32 by omega, show n % 65536 / 32 % 64 = n / 32 % 64 by omega]
theorem fits_eq (t : Int) (hb : -9223372036854775808 ≤ t ∧ t ≤ 9223372036854775807) : stamp_Fits.f t = some (decide (-2147483648 ≤ t ∧ t ≤ 2147483647)) := by
  unfold stamp_Fits.f
  by_cases h : -2147483648 ≤ t ∧ t ≤ 2147483647
  · rw [show wrap32 t = t by unfold wrap32; omega, w_id t hb, decide_eq_true h]; simp
  · have : wrap32 t ≠ t := by unfold wrap32; omega
    have hr : -2147483648 ≤ wrap32 t ∧ wrap32 t ≤ 2147483647 := by unfold wrap32; omega
    rw [w_id (wrap32 t) (by omega), decide_eq_false h]
    simp [Ne.symm this]
theorem sec_some (y m d h mi s : Int) : ∃ r, stamp_Date_Seconds.f y m d h mi s = some r := by
  by_cases k : OkT y m d h mi s
  · exact ⟨_, sec_ok k⟩
  · exact ⟨_, sec_bad k⟩
theorem dos_some (t : Int) (hb : -9223372036854775808 ≤ t ∧ t ≤ 9223372036854775807) : ∃ r, ∀ k, stamp_ToDOS.f (k + 3) t = some r := by
  by_cases h1 : t < 315532800
  · exact ⟨_, fun k => dos_lo k t hb h1⟩
  by_cases h2 : 4354819200 ≤ t
  · exact ⟨_, fun k => dos_hi k t hb h2⟩
  obtain ⟨y, m, d, ok, e⟩ := has_mid t h1 h2
  obtain ⟨y1, y2⟩ := mid_years t ok e h1 h2
  exact ⟨_, fun k => dos_mid k t e ok hb y1 y2⟩
end Go.Proofs.YtpolblaahifjiaaDoor.Cal
