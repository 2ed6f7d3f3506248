/- StampBack: dates and times come there and back. -/
import Derived.Test.YtpolblaahifjiaaDoorCalDOS
import Derived.Test.YtpolblaahifjiaaDoorPx10
namespace Go.Proofs.YtpolblaahifjiaaDoor.Walk
set_option linter.unusedVariables false
open Go Go.RowKit Go.Proofs.YtpolblaahifjiaaDoor.P Go.Proofs.YtpolblaahifjiaaDoor.Cal Go.Proofs.YtpolblaahifjiaaDoor.Fmt Go.Proofs.YtpolblaahifjiaaDoorW.PrintWords Go.Proofs.YtpolblaahifjiaaDoorW.PrintLast Go.Proofs.YtpolblaahifjiaaDoorW.PrintMore
/-- A date out of its time. -/
theorem of_secs {y m d h mi s : Int} (k : OkT y m d h mi s) : stamp_Of.f (secs y m d h mi s) = some (y, m, d, h, mi, s, 0) ∧ secs y m d h mi s / 86400 = dn y m d - 719162 ∧ secs y m d h mi s % 86400 = h * 3600 + mi * 60 + s ∧ (-9223372036854775808 ≤ secs y m d h mi s ∧ secs y m d h mi s ≤ 9223372036854775807) := by
  have h1 := k.h1; have h2 := k.h2; have i1 := k.i1; have i2 := k.i2; have s1 := k.s1; have s2 := k.s2
  have hd := dn_le k.toOk
  have e1 : secs y m d h mi s / 86400 = dn y m d - 719162 := by unfold secs; omega
  have e2 : secs y m d h mi s % 86400 = h * 3600 + mi * 60 + s := by unfold secs; omega
  have hb : -9223372036854775808 ≤ secs y m d h mi s ∧ secs y m d h mi s ≤ 9223372036854775807 := by unfold secs; omega
  refine ⟨?_, e1, e2, hb⟩
  rw [of_eq _ k.toOk hb e1, e2, show (h * 3600 + mi * 60 + s) / 3600 = h by omega, show (h * 3600 + mi * 60 + s) / 60 % 60 = mi by omega, show (h * 3600 + mi * 60 + s) % 60 = s by omega]
theorem clock (A B C : Int) (a0 : 0 ≤ A) (a1 : 0 ≤ B) (a2 : 0 ≤ C) (i2 : B ≤ 59) (s2 : C * 2 ≤ 59) (h2 : A ≤ 23) : (A * 3600 + B * 60 + C * 2) / 3600 = A ∧ (A * 3600 + B * 60 + C * 2) / 60 % 60 = B ∧ (A * 3600 + B * 60 + C * 2) % 60 = C * 2 := by refine ⟨by omega, by omega, by omega⟩
theorem pk_parts (n : Int) (h0 : 0 ≤ n) (h1 : n < 4294967296) : pk (n / 33554432 + 1980) (n / 2097152 % 16) (n / 65536 % 32) (n / 2048 % 32) (n / 32 % 64) (n % 32 * 2) = n := by
  have e1 : n / 2097152 = (n / 33554432) * 16 + n / 2097152 % 16 := by omega
  have e2 : n / 65536 = (n / 2097152) * 32 + n / 65536 % 32 := by omega
  have e3 : n / 2048 = (n / 65536) * 32 + n / 2048 % 32 := by omega
  have e4 : n / 32 = (n / 2048) * 64 + n / 32 % 64 := by omega
  have e5 : n = (n / 32) * 32 + n % 32 := by omega
  unfold pk
  generalize n / 2097152 % 16 = m at *
  generalize n / 65536 % 32 = d at *
  generalize n / 2048 % 32 = h at *
  generalize n / 32 % 64 = mi at *
  generalize n % 32 = s at *
  generalize n / 33554432 = y at *
  generalize n / 2097152 = a at *
  generalize n / 65536 = b at *
  generalize n / 2048 = c at *
  generalize n / 32 = e at *
  omega
theorem pk_open (y m d h mi s : Int) (y1 : 0 ≤ y) (m1 : 0 ≤ m) (m2 : m < 16) (d1 : 0 ≤ d) (d2 : d < 32) (h1 : 0 ≤ h) (h2 : h < 32) (i1 : 0 ≤ mi) (i2 : mi < 64) (s1 : 0 ≤ s) (s2 : s < 32) (n : Int) (hn : n = ((y * 512 + m * 32 + d) * 65536 + h * 2048 + mi * 32 + s)) :
    n / 33554432 = y ∧ n / 2097152 % 16 = m ∧ n / 65536 % 32 = d ∧ n / 2048 % 32 = h ∧ n / 32 % 64 = mi ∧ n % 32 = s := by
  have e1 : n / 32 = (y * 512 + m * 32 + d) * 2048 + h * 64 + mi := by omega
  have e2 : n / 2048 = (y * 512 + m * 32 + d) * 32 + h := by omega
  have e3 : n / 65536 = y * 512 + m * 32 + d := by omega
  have e4 : n / 2097152 = y * 16 + m := by omega
  have e5 : n / 33554432 = y := by omega
  have e6 : n % 32 = s := by omega
  rw [e1, e2, e3, e4, e5, e6]
  clear e1 e2 e3 e4 e5 e6 hn
  refine ⟨rfl, by omega, by omega, by omega, by omega, rfl⟩
/-- What DOS can tell is told again. -/
theorem dos_back (n : Int) (h0 : 0 ≤ n) (h1 : n < 4294967296) : ∃ c e, stamp_FromDOS.f n = some (c, e) ∧ (e = 0 → ∀ k, stamp_ToDOS.f (k + 3) c = some n) := by
  rw [fromdos_eq n h0 h1]
  by_cases k : OkT (n / 33554432 + 1980) (n / 2097152 % 16) (n / 65536 % 32) (n / 2048 % 32) (n / 32 % 64) (n % 32 * 2)
  · refine ⟨_, _, sec_ok k, fun _ j => ?_⟩
    obtain ⟨_, e1, e2, hb⟩ := of_secs k
    rw [dos_mid j _ e1 k.toOk hb (by omega) (by omega), e2]
    have s2 := k.s2; have h2 := k.h2; have i2 := k.i2; have m2 := k.m2
    clear e1 e2 hb k
    obtain ⟨q1, q2, q3⟩ := clock (n / 2048 % 32) (n / 32 % 64) (n % 32) (by omega) (by omega) (by omega) i2 s2 h2
    rw [q1, q2, q3]
    clear q1 q2 q3 s2 h2 i2 m2
    congr 1
    exact pk_parts n h0 h1
  · exact ⟨_, _, sec_bad k, fun h => absurd h (by decide)⟩
theorem secs_of {y m d : Int} (t : Int) (ok : Ok y m d) (e : t / 86400 = dn y m d - 719162) : OkT y m d (t % 86400 / 3600) (t % 86400 / 60 % 60) (t % 86400 % 60) ∧ secs y m d (t % 86400 / 3600) (t % 86400 / 60 % 60) (t % 86400 % 60) = t := by
  have p := parts t
  refine ⟨⟨ok, by omega, by omega, by omega, by omega, by omega, by omega⟩, ?_⟩
  unfold secs
  omega
theorem pk_bound (y m d h mi s : Int) (y1 : 1980 ≤ y) (y2 : y ≤ 2107) (m1 : 0 ≤ m) (m2 : m < 16) (d1 : 0 ≤ d) (d2 : d < 32) (h1 : 0 ≤ h) (h2 : h < 32) (i1 : 0 ≤ mi) (i2 : mi < 64) (s1 : 0 ≤ s) (s2 : s < 64) : 0 ≤ pk y m d h mi s ∧ pk y m d h mi s < 4294967296 := by
  unfold pk
  obtain ⟨z, hz⟩ : ∃ z, s / 2 = z := ⟨_, rfl⟩
  rw [hz]
  have a : 0 ≤ z ∧ z < 32 := by omega
  clear hz s1 s2
  omega
theorem there_mid {y m d h mi s : Int} (k : OkT y m d h mi s) (y1 : 1980 ≤ y) (y2 : y ≤ 2107) : 0 ≤ pk y m d h mi s ∧ pk y m d h mi s < 4294967296 ∧ stamp_FromDOS.f (pk y m d h mi s) = some (secs y m d h mi (s / 2 * 2), 0) := by
  have d2 := Int.le_trans k.d2 (long_le y m).2
  have m1 := k.m1; have m2 := k.m2; have d1 := k.d1
  have h1 := k.h1; have h2 := k.h2; have i1 := k.i1; have i2 := k.i2; have s1 := k.s1; have s2 := k.s2
  have hvb := pk_bound y m d h mi s y1 y2 (by omega) (by omega) (by omega) (by omega) (by omega) (by omega) (by omega) (by omega) (by omega) (by omega)
  have z0 : 0 ≤ s / 2 := by omega
  have z1 : s / 2 < 32 := by omega
  have z2 : 0 ≤ s / 2 * 2 := by omega
  have z3 : s / 2 * 2 ≤ 59 := by omega
  obtain ⟨q1, q2, q3, q4, q5, q6⟩ := pk_open (y - 1980) m d h mi (s / 2) (by clear hvb z2 z3; omega) (by clear hvb z2 z3; omega) (by clear hvb z2 z3; omega) (by clear hvb z2 z3; omega) (by clear hvb z2 z3; omega) (by clear hvb z2 z3; omega) (by clear hvb z2 z3; omega) (by clear hvb z2 z3; omega) (by clear hvb z2 z3; omega) z0 z1 (pk y m d h mi s) rfl
  refine ⟨hvb.1, hvb.2, ?_⟩
  rw [fromdos_eq _ hvb.1 hvb.2, q1, q2, q3, q4, q5, q6, show y - 1980 + 1980 = y from Int.sub_add_cancel y 1980]
  exact sec_ok ⟨k.toOk, h1, h2, i1, i2, z2, z3⟩
/-- What is made a DOS time is right, and at most a second earlier. -/
theorem dos_there {y m d : Int} (t : Int) (ok : Ok y m d) (hb : -9223372036854775808 ≤ t ∧ t ≤ 9223372036854775807) (e : t / 86400 = dn y m d - 719162) : ∃ v u, (∀ k, stamp_ToDOS.f (k + 3) t = some v) ∧ 0 ≤ v ∧ v < 4294967296 ∧ stamp_FromDOS.f v = some (u, 0) ∧ (1980 ≤ y → y ≤ 2107 → u ≤ t ∧ t - 1 ≤ u) := by
  have hy := dn_year ok
  by_cases y1 : 1980 ≤ y
  · by_cases y2 : y ≤ 2107
    · obtain ⟨okT, hs⟩ := secs_of t ok e
      obtain ⟨v0, v1, hf⟩ := there_mid okT y1 y2
      refine ⟨_, _, fun k => dos_mid k t e ok hb y1 y2, v0, v1, hf, fun _ _ => ?_⟩
      clear hf v0 v1 okT e hb hy
      generalize t % 86400 / 3600 = h at hs ⊢
      generalize t % 86400 / 60 % 60 = mi at hs ⊢
      generalize t % 86400 % 60 = s at hs ⊢
      rw [← hs]
      unfold secs
      clear hs
      generalize (dn y m d - 719162) * 86400 = D
      omega
    · have hhi : 4354819200 ≤ t := by
        have a : yd 2107 ≤ yd (y - 1) := yd_mono (by omega)
        rw [yd2107] at a
        omega
      refine ⟨_, 4354819198, fun k => dos_hi k t hb hhi, by decide, by decide, ?_, fun _ h => absurd h y2⟩
      rw [fromdos_eq _ (by decide) (by decide)]
      exact sec_ok (y := 2107) (m := 12) (d := 31) (h := 23) (mi := 59) (s := 58) ⟨⟨by decide, by decide, by decide, by decide, by decide, by decide⟩, by decide, by decide, by decide, by decide, by decide, by decide⟩
  · have hlo : t < 315532800 := by
      have a : yd y ≤ yd 1979 := yd_mono (by omega)
      rw [yd1979] at a
      omega
    refine ⟨_, 315532800, fun k => dos_lo k t hb hlo, by decide, by decide, ?_, fun h => absurd h y1⟩
    rw [fromdos_eq _ (by decide) (by decide)]
    exact sec_ok (y := 1980) (m := 1) (d := 1) (h := 0) (mi := 0) (s := 0) ⟨⟨by decide, by decide, by decide, by decide, by decide, by decide⟩, by decide, by decide, by decide, by decide, by decide, by decide⟩
theorem back_j2 (k : Nat) (n : Int) (h0 : 0 ≤ n) (h1 : n < 4294967296) : portmanteaulaw12_StampBack.j2 (k + 4) n false = some true := by
  obtain ⟨c, e, hs, hk⟩ := dos_back n h0 h1
  show (if false = true then some false else ((stamp_FromDOS.f n).bind fun b => (if b.2 = 0 then ((stamp_ToDOS.f (k + 3) b.1).bind fun q => (some (q == n))) else (some true)))) = _
  rw [if_neg (by decide), hs, Option.bind_some]
  dsimp only
  by_cases he : e = 0
  · rw [if_pos he, hk he k, Option.bind_some]; simp
  · rw [if_neg he]
theorem j1_back (k : Nat) (n a0 a1 a2 a3 a4 a5 : Int) : portmanteaulaw12_StampBack.j1 (k + 1) n a0 a1 a2 a3 a4 a5 = ((stamp_Date_Seconds.f a0 a1 a2 a3 a4 a5).bind fun b => if b.2 = 0 then ((stamp_Of.f b.1).bind fun q => if q.2.2.2.2.2.2 = 0 then portmanteaulaw12_StampBack.j2 k n (!(q.1 == a0) || (!(q.2.1 == a1) || (!(q.2.2.1 == a2) || (!(q.2.2.2.1 == a3) || (!(q.2.2.2.2.1 == a4) || (!(q.2.2.2.2.2.1 == a5))))))) else portmanteaulaw12_StampBack.j2 k n true) else ((stamp_FromDOS.f n).bind fun b => if b.2 = 0 then ((stamp_ToDOS.f k b.1).bind fun t => some (t == n)) else some true)) := rfl
theorem back_j1 (k : Nat) (n a0 a1 a2 a3 a4 a5 : Int) (h0 : 0 ≤ n) (h1 : n < 4294967296) : portmanteaulaw12_StampBack.j1 (k + 5) n a0 a1 a2 a3 a4 a5 = some true := by
  obtain ⟨c, e, hs, hk⟩ := dos_back n h0 h1
  rw [show portmanteaulaw12_StampBack.j1 (k + 5) n a0 a1 a2 a3 a4 a5 = _ from j1_back (k + 4) n a0 a1 a2 a3 a4 a5]
  by_cases ok : OkT a0 a1 a2 a3 a4 a5
  · rw [sec_ok ok, Option.bind_some]
    dsimp only
    rw [if_pos rfl, (of_secs ok).1, Option.bind_some]
    dsimp only
    rw [if_pos rfl]
    simp only [beq_self_eq_true, Bool.not_true, Bool.or_false]
    exact back_j2 k n h0 h1
  · rw [sec_bad ok, Option.bind_some]
    dsimp only
    rw [if_neg (by decide), hs, Option.bind_some]
    dsimp only
    by_cases he : e = 0
    · rw [if_pos he, show stamp_ToDOS.f (k + 4) c = some n from hk he (k + 1), Option.bind_some]; simp
    · rw [if_neg he]
theorem pure_back (t n a0 a1 a2 a3 a4 a5 : Int) (hb : -9223372036854775808 ≤ t ∧ t ≤ 9223372036854775807) (h0 : 0 ≤ n) (h1 : n < 4294967296) : portmanteaulaw12_StampBack.f 20000 t a0 a1 a2 a3 a4 a5 n = some true := by
  have hj := back_j1 19994 n a0 a1 a2 a3 a4 a5 h0 h1
  have hj2 := back_j1 19995 n a0 a1 a2 a3 a4 a5 h0 h1
  unfold portmanteaulaw12_StampBack.f portmanteaulaw12_awake.f
  rw [Option.bind_some, if_pos rfl]
  rcases has_date t with h | ⟨y, m, d, ok, e⟩
  · rw [of_out t hb h, Option.bind_some]
    dsimp only
    rw [if_neg (by decide)]
    exact hj2
  · rw [of_eq t ok hb e, Option.bind_some]
    dsimp only
    obtain ⟨okT, hs⟩ := secs_of t ok e
    obtain ⟨v, u, hv, v0, v1, hf, hu⟩ := dos_there t ok hb e
    rw [if_pos rfl, sec_ok okT, Option.bind_some, hs]
    dsimp only
    rw [if_pos rfl, bne_self_eq_false]
    show (if false = true then some false else ((stamp_ToDOS.f 19999 t).bind fun q => ((stamp_FromDOS.f q).bind fun b => (if b.2 = 0 then (if y ≥ 1980 then (if y ≤ 2107 then (if b.1 > t then (some false) else (if b.1 < (wrap64 (t - 1)) then (some false) else (portmanteaulaw12_StampBack.j1 19999 n a0 a1 a2 a3 a4 a5))) else (portmanteaulaw12_StampBack.j1 19999 n a0 a1 a2 a3 a4 a5)) else (portmanteaulaw12_StampBack.j1 19999 n a0 a1 a2 a3 a4 a5)) else (some false))))) = _
    rw [if_neg (by decide), show stamp_ToDOS.f 19999 t = some v from hv 19996, Option.bind_some, hf, Option.bind_some]
    dsimp only
    rw [if_pos rfl]
    by_cases y1 : y ≥ 1980
    · rw [if_pos y1]
      by_cases y2 : y ≤ 2107
      · obtain ⟨u1, u2⟩ := hu y1 y2
        have hd := dn_le ok
        rw [if_pos y2, if_neg (by omega), if_neg (by rw [w_id _ (by omega)]; omega)]
        exact hj
      · rw [if_neg y2]; exact hj
    · rw [if_neg y1]; exact hj
theorem wf_i64c {x : Int} (h : (Lit.int .i64 x).wf = true) : -9223372036854775808 ≤ x ∧ x ≤ 9223372036854775807 := by
  simp [Lit.wf, IntKind.min, IntKind.max, IntKind.signed, IntKind.bits] at h; omega
theorem wf_u32c {x : Int} (h : (Lit.int .u32 x).wf = true) : 0 ≤ x ∧ x < 4294967296 := by
  simp [Lit.wf, IntKind.min, IntKind.max, IntKind.signed, IntKind.bits] at h; omega
theorem StampBack (t : Int) (x : S24) (cs : Array Value) (n : Int) (w : World) (w0 : (Lit.int .i64 t).wf = true) (hK : k24.K w x cs.toList)
    (hok : ((Lit.int .i64 x.f0).wf = true) ∧ ((Lit.int .i64 x.f1).wf = true) ∧ ((Lit.int .i64 x.f2).wf = true) ∧ ((Lit.int .i64 x.f3).wf = true) ∧ ((Lit.int .i64 x.f4).wf = true) ∧ ((Lit.int .i64 x.f5).wf = true)) (w2 : (Lit.int .u32 n).wf = true) (hT : Tab w) :
    Calls Tryd.prog 6 #[.int .i64 t, .agg cs, .int .u32 n] w fun e w' => e = .returned (.bool true) ∧ Below w.heap.size w w' := by
  have hcs := k24_open hK
  obtain rfl : cs = #[.int .i64 x.f0, .int .i64 x.f1, .int .i64 x.f2, .int .i64 x.f3, .int .i64 x.f4, .int .i64 x.f5] := Array.toList_inj.1 (by rw [hcs])
  exact portmanteaulaw12_StampBack.calls 20000 t x.f0 x.f1 x.f2 x.f3 x.f4 x.f5 n true w (pure_back t n _ _ _ _ _ _ (wf_i64c w0) (wf_u32c w2).1 (wf_u32c w2).2) hT
end Go.Proofs.YtpolblaahifjiaaDoor.Walk
