/- StampOrder: later times never have earlier dates, nor lesser DOS times. -/
import Derived.Test.YtpolblaahifjiaaDoorCalDOS
import Derived.Test.YtpolblaahifjiaaDoorTextOrd
import Derived.Test.YtpolblaahifjiaaDoorPx8
namespace Go.Proofs.YtpolblaahifjiaaDoor.Walk
set_option linter.unusedVariables false
open Go Go.RowKit Go.Proofs.YtpolblaahifjiaaDoor.P Go.Proofs.YtpolblaahifjiaaDoor.Cal Go.Proofs.YtpolblaahifjiaaDoor.Fmt Go.Proofs.YtpolblaahifjiaaDoorW.PrintWords Go.Proofs.YtpolblaahifjiaaDoorW.PrintLast Go.Proofs.YtpolblaahifjiaaDoorW.PrintMore
theorem md_mono (y a : Int) (h1 : 1 ≤ a) : ∀ (i : Nat), a + (i : Int) ≤ 12 → md y a ≤ md y (a + (i : Int)) := by
  intro i
  induction i with
  | zero => intro _; simp
  | succ i ih =>
    intro hi
    have x := ih (by omega)
    have z := md_next (y := y) (m := a + (i : Int)) (by omega) (by omega)
    have c := long_le y (a + (i : Int))
    rw [show a + ((i + 1 : Nat) : Int) = a + (i : Int) + 1 by omega]
    omega
theorem md_lt {y a b : Int} (h1 : 1 ≤ a) (hab : a < b) (hb : b ≤ 12) : md y a + long y a ≤ md y b := by
  have z := md_next (y := y) (m := a) h1 (by omega)
  have := md_mono y (a + 1) (by omega) (b - (a + 1)).toNat (by omega)
  rw [show a + 1 + ((b - (a + 1)).toNat : Int) = b by omega] at this
  omega
/-- Later days have later dates. -/
theorem dates_le {y m d y' m' d' : Int} (ok : Ok y m d) (ok' : Ok y' m' d') (h : dn y m d ≤ dn y' m' d') : y ≤ y' ∧ (y = y' → m ≤ m') ∧ (y = y' → m = m' → d ≤ d') ∧ (y = y' → m = m' → d = d' → dn y m d = dn y' m' d') ∧ (dn y m d < dn y' m' d' → ¬ (y = y' ∧ m = m' ∧ d = d')) := by
  have a := dn_year ok
  have b := dn_year ok'
  refine ⟨?_, ?_, ?_, ?_, ?_⟩
  · apply Int.le_of_not_gt
    intro hlt
    have : yd y' ≤ yd (y - 1) := yd_mono (by omega)
    omega
  · rintro rfl
    apply Int.le_of_not_gt
    intro hlt
    have := md_lt (y := y) ok'.m1 hlt ok.m2
    have e1 := ok.d1; have e2 := ok'.d2
    unfold dn at h
    omega
  · rintro rfl rfl
    unfold dn at h
    omega
  · rintro rfl rfl rfl; rfl
  · rintro hlt ⟨rfl, rfl, rfl⟩
    omega
/-- The dates and the times of day of two times in their order. -/
theorem times_le {y m d y' m' d' : Int} (t t' : Int) (ok : Ok y m d) (ok' : Ok y' m' d') (e : t / 86400 = dn y m d - 719162) (e' : t' / 86400 = dn y' m' d' - 719162) (h : t ≤ t') :
    y ≤ y' ∧ (y = y' → m ≤ m') ∧ (y = y' → m = m' → d ≤ d') ∧ (y = y' → m = m' → d = d' → t % 86400 ≤ t' % 86400) := by
  have hq : t / 86400 ≤ t' / 86400 := by omega
  obtain ⟨a, b, c, f, g⟩ := dates_le ok ok' (by omega)
  refine ⟨a, b, c, fun h1 h2 h3 => ?_⟩
  have := f h1 h2 h3
  omega
theorem clock_le (r r' : Int) (h0 : 0 ≤ r) (h1 : r' < 86400) (h : r ≤ r') : r / 3600 ≤ r' / 3600 ∧ (r / 3600 = r' / 3600 → r / 60 % 60 ≤ r' / 60 % 60) ∧ (r / 3600 = r' / 3600 → r / 60 % 60 = r' / 60 % 60 → r % 60 ≤ r' % 60) := by
  refine ⟨by omega, fun a => by omega, fun a b => by omega⟩
theorem half_le {a b : Int} (h : a ≤ b) : a / 2 ≤ b / 2 := by omega
/-- What DOS has is in the dates' order. -/
theorem pk_le (y m d h mi s y' m' d' h' mi' s' : Int) (m2 : 0 ≤ m ∧ m < 16) (m2' : 0 ≤ m' ∧ m' < 16) (d2 : 0 ≤ d ∧ d < 32) (d2' : 0 ≤ d' ∧ d' < 32) (b3 : 0 ≤ h ∧ h < 32) (b3' : 0 ≤ h' ∧ h' < 32) (b4 : 0 ≤ mi ∧ mi < 64) (b4' : 0 ≤ mi' ∧ mi' < 64) (b5 : 0 ≤ s ∧ s < 60) (b5' : 0 ≤ s' ∧ s' < 60)
    (l1 : y ≤ y') (l2 : y = y' → m ≤ m') (l3 : y = y' → m = m' → d ≤ d') (l4 : y = y' → m = m' → d = d' → h ≤ h') (l5 : y = y' → m = m' → d = d' → h = h' → mi ≤ mi') (l6 : y = y' → m = m' → d = d' → h = h' → mi = mi' → s ≤ s') : pk y m d h mi s ≤ pk y' m' d' h' mi' s' := by
  have z : 0 ≤ s / 2 ∧ s / 2 < 32 := by clear l1 l2 l3 l4 l5 l6; omega
  have z' : 0 ≤ s' / 2 ∧ s' / 2 < 32 := by clear l1 l2 l3 l4 l5 l6; omega
  have hz := fun a b c d e => half_le (l6 a b c d e)
  unfold pk
  generalize s / 2 = u at z hz ⊢
  generalize s' / 2 = u' at z' hz ⊢
  clear l6 b5 b5'
  by_cases e1 : y = y'
  · subst e1
    by_cases e2 : m = m'
    · subst e2
      by_cases e3 : d = d'
      · subst e3
        by_cases e4 : h = h'
        · subst e4
          by_cases e5 : mi = mi'
          · subst e5
            have := hz rfl rfl rfl rfl rfl
            omega
          · have := l5 rfl rfl rfl rfl
            clear hz l5 l4 l3 l2
            omega
        · have := l4 rfl rfl rfl
          clear hz l5 l4 l3 l2
          omega
      · have := l3 rfl rfl
        clear hz l5 l4 l3 l2
        omega
    · have := l2 rfl
      clear hz l5 l4 l3 l2
      omega
  · clear hz l5 l4 l3 l2
    omega
theorem pk_range {y m d h mi s : Int} (y1 : 1980 ≤ y) (y2 : y ≤ 2107) (m1 : 1 ≤ m) (m2 : m ≤ 12) (d1 : 1 ≤ d) (d2 : d ≤ 31) (b3 : 0 ≤ h ∧ h ≤ 23) (b4 : 0 ≤ mi ∧ mi ≤ 59) (b5 : 0 ≤ s ∧ s ≤ 59) : 2162688 ≤ pk y m d h mi s ∧ pk y m d h mi s ≤ 4288659325 := by
  have z : 0 ≤ s / 2 ∧ s / 2 ≤ 29 := by omega
  unfold pk
  generalize s / 2 = u at z ⊢
  clear b5
  omega
abbrev B64 (t : Int) : Prop := -9223372036854775808 ≤ t ∧ t ≤ 9223372036854775807
theorem dos_le (t t' : Int) (hb : B64 t) (hb' : B64 t') (h : t ≤ t') : ∃ v v', (∀ k, stamp_ToDOS.f (k + 3) t = some v) ∧ (∀ k, stamp_ToDOS.f (k + 3) t' = some v') ∧ v ≤ v' := by
  by_cases a1 : t < 315532800
  · by_cases b1 : t' < 315532800
    · exact ⟨_, _, fun k => dos_lo k t hb a1, fun k => dos_lo k t' hb' b1, by decide⟩
    by_cases b2 : 4354819200 ≤ t'
    · exact ⟨_, _, fun k => dos_lo k t hb a1, fun k => dos_hi k t' hb' b2, by decide⟩
    obtain ⟨y, m, d, ok, e⟩ := has_mid t' b1 b2
    obtain ⟨y1, y2⟩ := mid_years t' ok e b1 b2
    have p := parts t'
    exact ⟨_, _, fun k => dos_lo k t hb a1, fun k => dos_mid k t' e ok hb' y1 y2, (pk_range y1 y2 ok.m1 ok.m2 ok.d1 (Int.le_trans ok.d2 (long_le y m).2) ⟨p.1, p.2.1⟩ ⟨p.2.2.1, p.2.2.2.1⟩ ⟨p.2.2.2.2.1, p.2.2.2.2.2.1⟩).1⟩
  by_cases a2 : 4354819200 ≤ t
  · exact ⟨_, _, fun k => dos_hi k t hb a2, fun k => dos_hi k t' hb' (by omega), by decide⟩
  obtain ⟨y, m, d, ok, e⟩ := has_mid t a1 a2
  obtain ⟨y1, y2⟩ := mid_years t ok e a1 a2
  have p := parts t
  by_cases b2 : 4354819200 ≤ t'
  · exact ⟨_, _, fun k => dos_mid k t e ok hb y1 y2, fun k => dos_hi k t' hb' b2, (pk_range y1 y2 ok.m1 ok.m2 ok.d1 (Int.le_trans ok.d2 (long_le y m).2) ⟨p.1, p.2.1⟩ ⟨p.2.2.1, p.2.2.2.1⟩ ⟨p.2.2.2.2.1, p.2.2.2.2.2.1⟩).2⟩
  have b1 : ¬ t' < 315532800 := by omega
  obtain ⟨y', m', d', ok', e'⟩ := has_mid t' b1 b2
  obtain ⟨y1', y2'⟩ := mid_years t' ok' e' b1 b2
  have p' := parts t'
  obtain ⟨l1, l2, l3, l4⟩ := times_le t t' ok ok' e e' h
  have r0 : 0 ≤ t % 86400 := by omega
  have r1 : t' % 86400 < 86400 := by omega
  refine ⟨_, _, fun k => dos_mid k t e ok hb y1 y2, fun k => dos_mid k t' e' ok' hb' y1' y2', ?_⟩
  have m1 := ok.m1; have m2 := ok.m2; have d1 := ok.d1; have d2 := Int.le_trans ok.d2 (long_le y m).2
  have m1' := ok'.m1; have m2' := ok'.m2; have d1' := ok'.d1; have d2' := Int.le_trans ok'.d2 (long_le y' m').2
  clear e e' a1 a2 b1 b2 h hb hb' ok ok'
  exact pk_le _ _ _ _ _ _ _ _ _ _ _ _ ⟨by clear p p'; omega, by clear p p'; omega⟩ ⟨by clear p p'; omega, by clear p p'; omega⟩ ⟨by clear p p'; omega, by clear p p'; omega⟩ ⟨by clear p p'; omega, by clear p p'; omega⟩ ⟨p.1, Int.lt_of_le_of_lt p.2.1 (by decide)⟩ ⟨p'.1, Int.lt_of_le_of_lt p'.2.1 (by decide)⟩ ⟨p.2.2.1, Int.lt_of_le_of_lt p.2.2.2.1 (by decide)⟩ ⟨p'.2.2.1, Int.lt_of_le_of_lt p'.2.2.2.1 (by decide)⟩ ⟨p.2.2.2.2.1, Int.lt_of_le_of_lt p.2.2.2.2.2.1 (by decide)⟩ ⟨p'.2.2.2.2.1, Int.lt_of_le_of_lt p'.2.2.2.2.2.1 (by decide)⟩
    l1 l2 l3 (fun a b c => (clock_le _ _ r0 r1 (l4 a b c)).1) (fun a b c d => (clock_le _ _ r0 r1 (l4 a b c)).2.1 d) (fun a b c d e => (clock_le _ _ r0 r1 (l4 a b c)).2.2 d e)
theorem text_some {y m d : Int} (t : Int) (ok : Ok y m d) : stamp_Text.f y m d (t % 86400 / 3600) (t % 86400 / 60 % 60) (t % 86400 % 60) = some ⟨(textL y.toNat m.toNat d.toNat (t % 86400 / 3600).toNat (t % 86400 / 60 % 60).toNat (t % 86400 % 60).toNat).toArray⟩ := by
  have p := parts t
  have y1 := ok.y1; have y2 := ok.y2; have m1 := ok.m1; have m2 := ok.m2; have d1 := ok.d1; have d2 := Int.le_trans ok.d2 (long_le y m).2
  unfold stamp_Text.f
  rw [if_pos]
  refine ⟨by clear p; omega, by clear p; omega, by clear p; omega, by clear p; omega, by clear p; omega, by clear p; omega, p.1, by omega, p.2.2.1, by omega, p.2.2.2.2.1, by omega⟩
theorem texts_le {y m d y' m' d' : Int} (t t' : Int) (ok : Ok y m d) (ok' : Ok y' m' d') (e : t / 86400 = dn y m d - 719162) (e' : t' / 86400 = dn y' m' d' - 719162) (h : t ≤ t') :
    Op.bytesLess (textL y'.toNat m'.toNat d'.toNat (t' % 86400 / 3600).toNat (t' % 86400 / 60 % 60).toNat (t' % 86400 % 60).toNat) (textL y.toNat m.toNat d.toNat (t % 86400 / 3600).toNat (t % 86400 / 60 % 60).toNat (t % 86400 % 60).toNat) = false := by
  have p := parts t
  have p' := parts t'
  obtain ⟨l1, l2, l3, l4⟩ := times_le t t' ok ok' e e' h
  have r0 : 0 ≤ t % 86400 := by omega
  have r1 : t' % 86400 < 86400 := by omega
  have y1 := ok.y1; have y2 := ok.y2; have m1 := ok.m1; have m2 := ok.m2; have d1 := ok.d1; have d2 := Int.le_trans ok.d2 (long_le y m).2
  have y1' := ok'.y1; have y2' := ok'.y2; have m1' := ok'.m1; have m2' := ok'.m2; have d1' := ok'.d1; have d2' := Int.le_trans ok'.d2 (long_le y' m').2
  have c1 := fun a b c => (clock_le _ _ r0 r1 (l4 a b c)).1
  have c2 := fun a b c => (clock_le _ _ r0 r1 (l4 a b c)).2.1
  have c3 := fun a b c => (clock_le _ _ r0 r1 (l4 a b c)).2.2
  clear e e' h ok ok' l4 r0 r1
  generalize t % 86400 / 3600 = h at *
  generalize t % 86400 / 60 % 60 = mi at *
  generalize t % 86400 % 60 = s at *
  generalize t' % 86400 / 3600 = h' at *
  generalize t' % 86400 / 60 % 60 = mi' at *
  generalize t' % 86400 % 60 = s' at *
  obtain ⟨p1, p2, p3, p4, p5, p6, _⟩ := p
  obtain ⟨q1, q2, q3, q4, q5, q6, _⟩ := p'
  obtain ⟨Y, rfl⟩ := Int.eq_ofNat_of_zero_le (show 0 ≤ y by omega)
  obtain ⟨M, rfl⟩ := Int.eq_ofNat_of_zero_le (show 0 ≤ m by omega)
  obtain ⟨D, rfl⟩ := Int.eq_ofNat_of_zero_le (show 0 ≤ d by omega)
  obtain ⟨Y', rfl⟩ := Int.eq_ofNat_of_zero_le (show 0 ≤ y' by omega)
  obtain ⟨M', rfl⟩ := Int.eq_ofNat_of_zero_le (show 0 ≤ m' by omega)
  obtain ⟨D', rfl⟩ := Int.eq_ofNat_of_zero_le (show 0 ≤ d' by omega)
  obtain ⟨H, rfl⟩ := Int.eq_ofNat_of_zero_le p1
  obtain ⟨I, rfl⟩ := Int.eq_ofNat_of_zero_le p3
  obtain ⟨S, rfl⟩ := Int.eq_ofNat_of_zero_le p5
  obtain ⟨H', rfl⟩ := Int.eq_ofNat_of_zero_le q1
  obtain ⟨I', rfl⟩ := Int.eq_ofNat_of_zero_le q3
  obtain ⟨S', rfl⟩ := Int.eq_ofNat_of_zero_le q5
  simp only [Int.toNat_natCast]
  have Z : ∀ {a b : Nat}, a = b → (a : Int) = (b : Int) := fun h => by rw [h]
  refine text_le _ _ _ _ _ _ _ _ _ _ _ _ (by omega) (by omega) (by omega) (by omega) (by omega) (by omega) (by omega) (by omega) (by omega) (by omega) (by omega) (by omega) (Int.ofNat_le.mp l1) (fun a => Int.ofNat_le.mp (l2 (Z a))) (fun a b => Int.ofNat_le.mp (l3 (Z a) (Z b))) (fun a b c => Int.ofNat_le.mp (c1 (Z a) (Z b) (Z c))) (fun a b c d => Int.ofNat_le.mp (c2 (Z a) (Z b) (Z c) (Z d))) (fun a b c d e => Int.ofNat_le.mp (c3 (Z a) (Z b) (Z c) (Z d) (Z e)))
theorem j0_order (k : Nat) (a b : Int) : portmanteaulaw12_StampOrder.j0 (k + 1) a b = ((stamp_Of.f a).bind fun p => ((stamp_Of.f b).bind fun q => ((stamp_ToDOS.f k a).bind fun u => ((stamp_ToDOS.f k b).bind fun v => (if u ≤ v then (if p.2.2.2.2.2.2 = 0 then (if q.2.2.2.2.2.2 = 0 then ((stamp_Text.f p.1 p.2.1 p.2.2.1 p.2.2.2.1 p.2.2.2.2.1 p.2.2.2.2.2.1).bind fun x => ((stamp_Text.f q.1 q.2.1 q.2.2.1 q.2.2.2.1 q.2.2.2.2.1 q.2.2.2.2.2.1).bind fun z => (some (!(Op.bytesLess z.toList x.toList))))) else (some true)) else (some true)) else (some false)))))) := rfl
theorem order_pure (k : Nat) (a b : Int) (hb : B64 a) (hb' : B64 b) (h : a ≤ b) : portmanteaulaw12_StampOrder.j0 (k + 4) a b = some true := by
  obtain ⟨u, v, hu, hv, huv⟩ := dos_le a b hb hb' h
  rw [show portmanteaulaw12_StampOrder.j0 (k + 4) a b = _ from j0_order (k + 3) a b]
  rcases has_date a with x | ⟨y, m, d, ok, e⟩
  · rw [of_out a hb x, Option.bind_some]
    rcases has_date b with x' | ⟨y', m', d', ok', e'⟩
    · rw [of_out b hb' x', Option.bind_some, hu k, Option.bind_some, hv k, Option.bind_some, if_pos huv, if_neg (by decide)]
    · rw [of_eq b ok' hb' e', Option.bind_some, hu k, Option.bind_some, hv k, Option.bind_some, if_pos huv, if_neg (by decide)]
  · rw [of_eq a ok hb e, Option.bind_some]
    rcases has_date b with x' | ⟨y', m', d', ok', e'⟩
    · rw [of_out b hb' x', Option.bind_some, hu k, Option.bind_some, hv k, Option.bind_some, if_pos huv, if_pos rfl, if_neg (by decide)]
    · rw [of_eq b ok' hb' e', Option.bind_some, hu k, Option.bind_some, hv k, Option.bind_some, if_pos huv, if_pos rfl, if_pos rfl]
      dsimp only
      rw [text_some a ok, Option.bind_some, text_some b ok', Option.bind_some, Lib.toList_data, Lib.toList_data]
      rw [texts_le a b ok ok' e e' h]
      rfl
theorem wf_i64d {x : Int} (h : (Lit.int .i64 x).wf = true) : B64 x := by
  simp [Lit.wf, IntKind.min, IntKind.max, IntKind.signed, IntKind.bits] at h; constructor <;> omega
theorem StampOrder (a b : Int) (w : World) (w0 : (Lit.int .i64 a).wf = true) (w1 : (Lit.int .i64 b).wf = true) (hT : Tab w) :
    Calls Tryd.prog 4 #[.int .i64 a, .int .i64 b] w fun e w' => e = .returned (.bool true) ∧ Below w.heap.size w w' := by
  refine portmanteaulaw12_StampOrder.calls 20000 a b true w ?_ hT
  unfold portmanteaulaw12_StampOrder.f portmanteaulaw12_awake.f
  rw [Option.bind_some, if_pos rfl]
  by_cases h : a > b
  · rw [if_pos h]; exact order_pure 19996 b a (wf_i64d w1) (wf_i64d w0) (by omega)
  · rw [if_neg h]; exact order_pure 19996 a b (wf_i64d w0) (wf_i64d w1) (by omega)
end Go.Proofs.YtpolblaahifjiaaDoor.Walk
