/- prefix.Code: Length and Sign: the walks. -/
import Derived.Test.YtlfcepdaicngjaaGoes4
import Derived.Test.YtlfcepdaicngjaaPeek4
import Derived.Test.YtlfcepdaicngjaaPx2
import Derived.Test.YtlfcepdaicngjaaPx4
import Derived.Test.YtlfcepdaicngjaaPx5
namespace Go.Proofs.Ytlfcepdaicngjaa.Pk
set_option linter.unusedVariables false
set_option linter.unusedSimpArgs false
open Go Go.RowKit Go.Proofs.Ytlfcepdaicngjaa.P Go.Proofs.Ytlfcepdaicngjaa.MapV Go.Proofs.Ytlfcepdaicngjaa.B Go.Proofs.Ytlfcepdaicngjaa.Bn Go.Proofs.Ytlfcepdaicngjaa.Rd Go.Proofs.YtlfcepdaicngjaaW.PrintWords Go.Proofs.YtlfcepdaicngjaaW.PrintLast Go.Proofs.YtlfcepdaicngjaaW.PrintMore
set_option maxHeartbeats 4000000 in
set_option maxRecDepth 100000 in
theorem length_calls (p : Nat) (x : Int) (ls ws : List Int) (w : World) (hk : CodeOk ls ws) (hC : IsCode w p ls ws) :
    Calls Try.prog 12 #[.pointer (some ⟨p, 0, none⟩), .int .i64 x] w fun e w' => e = .returned (.int .i64 (if 0 ≤ x ∧ x < ls.length then ls.getD x.toNat 0 else 0)) ∧ Below w.heap.size w w' := by
  have HK := Aside0.mk hk
  obtain ⟨A1, c1, A2, c2, mb, hP, hA1, hA2, hM⟩ := hC
  have HA1 := Aside0.mk hA1
  have hc0 := blk_cell hP 0
  simp only [List.getElem?_toArray, List.getElem?_cons_zero, List.getElem?_cons_succ] at hc0
  clear hP hA1 hA2 hM hk
  by_cases h0 : x < 0
  · have hd0 : decide (x < 0) = true := decide_eq_true h0
    rw [if_neg (by omega)]
    go_enter Try.func12, Try.ntmps12
    go_wp2
    go_ret
    exact ⟨rfl, Below.refl _ _⟩
  have hd0 : decide (x < 0) = false := decide_eq_false h0
  by_cases h1 : (ls.length : Int) ≤ x
  · have hd1 : decide ((ls.length : Int) ≤ x) = true := decide_eq_true h1
    rw [if_neg (by omega)]
    go_enter Try.func12, Try.ntmps12
    go_wp2
    go_ret
    exact ⟨rfl, Below.refl _ _⟩
  have hd1 : decide ((ls.length : Int) ≤ x) = false := decide_eq_false h1
  rw [if_pos (by omega)]
  obtain ⟨ad, hA, hx⟩ := Kd.at_int HA1.out x (by omega) (by omega)
  cases hA
  have hg : rd ls x = ls.getD x.toNat 0 := rfl
  rw [hg] at hx
  obtain ⟨h4, h5⟩ := HK.out.at_ x.toNat (by omega)
  obtain ⟨y, hyy⟩ : ∃ y : Nat, ls.getD x.toNat 0 = (y : Int) := ⟨_, h4⟩
  rw [hyy] at hx
  rw [hyy]
  have hy15 : y ≤ 15 := by omega
  clear h4 h5 hg hyy
  have hlt : decide (x < ls.length) = true := decide_eq_true (by omega)
  go_enter Try.func12, Try.ntmps12
  go_wp2
  go_ret
  exact ⟨rfl, Below.refl _ _⟩
/-- What Sign answers at a place. -/
def SignR (ls ws : List Int) (s : ByteArray) (a : Nat) (x er : Int) (a' : Nat) : Prop :=
  let t := min (mostW ls ls.length).toNat (8 * s.size - a)
  (∃ i l, ∃ hi : i < ls.length, er = 0 ∧ x = (i : Int) ∧ 1 ≤ l ∧ l ≤ t ∧ (nat ls)[i]'(by rw [nat_len]; exact hi) = l ∧ wordN (nat ls) i = rvs (num s a t) l ∧ (∀ k, 1 ≤ k → k < l → signsG ls ws ls.length (wd (k : Int) ((rvs (num s a t) k : Nat) : Int)) = none) ∧ a' = a + l) ∨
  (x = -1 ∧ a' = a ∧ (∀ k, 1 ≤ k → k ≤ t → signsG ls ws ls.length (wd (k : Int) ((rvs (num s a t) k : Nat) : Int)) = none) ∧
    (er = 3 ∧ (t : Int) < mostW ls ls.length ∧ (∃ i, i < ls.length ∧ goesP ls ws (rvs (num s a t) t) t i) ∨ er = 10 ∧ ((t : Int) < mostW ls ls.length → ¬ ∃ i, i < ls.length ∧ goesP ls ws (rvs (num s a t) t) t i)))
theorem or_bit (n b : Nat) (hn : n < 2147483648) (hb : b < 2) : Go.bits .or .u32 ((2 * n : Nat) : Int) (b : Int) = ((2 * n + b : Nat) : Int) := by
  have h := (bits_nat .u32 32 (by decide) (fun n h0 h1 => by simp [IntKind.wrap, IntKind.bits, IntKind.signed]; omega) (2 * n) b (by omega) (by omega)).2
  rw [h, show 2 * n = 2 ^ 1 * n by omega, ← Nat.two_pow_add_eq_or_of_lt (by omega)]
theorem and1 (x : Nat) (hx : x < 4294967296) : Go.bits .and .u32 (x : Int) 1 = ((x % 2 : Nat) : Int) := by
  have h := (bits_nat .u32 32 (by decide) (fun n h0 h1 => by simp [IntKind.wrap, IntKind.bits, IntKind.signed]; omega) x 1 (by omega) (by omega)).1
  rw [show ((1 : Nat) : Int) = 1 from rfl] at h
  rw [h, Nat.and_one_is_mod]
set_option maxHeartbeats 8000000 in
set_option maxRecDepth 100000 in
theorem sign_calls (p g a : Nat) (s : ByteArray) (ls ws : List Int) (w0 w : World) (hk : CodeOk ls ws) (hC : IsCode w0 p ls ws) (hI : IsS70 w0 w g s a 0) (hB : Below w0.heap.size w0 w) (hs : s.size ≤ 1000000) (ha : a ≤ 8 * s.size) :
    Calls Try.prog 11 #[.pointer (some ⟨p, 0, none⟩), .pointer (some ⟨g, 0, none⟩)] w fun e w' => ∃ (x er : Int) (a' : Nat), e = .returned (.tuple #[.int .i64 x, .int .i64 er]) ∧ SignR ls ws s a x er a' ∧ a' ≤ 8 * s.size ∧ IsS70 w0 w' g s a' 0 ∧ Below w0.heap.size w0 w' ∧ KeepBut w w' g none := by
  have HK := Aside0.mk hk
  have HI := Aside0.mk hI
  have HB := Aside0.mk hB
  have HC := Aside0.mk hC
  have HKB := Aside0.mk (KeepBut.refl w g none)
  have hmr := mostW_range ls hk.rng ls.length (Nat.le_refl _)
  obtain ⟨m, hm⟩ : ∃ m : Nat, mostW ls ls.length = (m : Int) := ⟨(mostW ls ls.length).toNat, by omega⟩
  rw [hm] at hmr
  obtain ⟨A1, c1, A2, c2, mb, hP, hA1, hA2, hM⟩ := hC
  have HM := Aside0.mk hM
  have hc3 := blk_cell hP 3
  have hc2 := blk_cell hP 2
  simp only [List.getElem?_toArray, List.getElem?_cons_zero, List.getElem?_cons_succ] at hc3 hc2
  rw [hm] at hc3
  have HC2 := Aside0.mk hc2
  have HC3 := Aside0.mk hc3
  replace hc3 := (hB.cell (World.block_lt_of_cell? w0 _ hc3)).trans hc3
  have hpk := peek_in s a m hs ha (by omega)
  obtain ⟨t, ht⟩ : ∃ t, min m (8 * s.size - a) = t := ⟨_, rfl⟩
  rw [ht] at hpk
  obtain ⟨v, hv⟩ : ∃ v, num s a t = v := ⟨_, rfl⟩
  rw [hv] at hpk
  have hvl := num_lt s a t
  rw [hv] at hvl
  have htm : t ≤ m := by omega
  have ht2 : t ≤ 8 * s.size - a := by omega
  have hp15 : (2 : Nat) ^ t ≤ 2 ^ 15 := Nat.pow_le_pow_right (by omega) (by omega)
  have HPK := Aside0.mk hpk
  have HR : Aside0 (∀ x er a', SignR ls ws s a x er a' ↔ ((∃ i l, ∃ hi : i < ls.length, er = 0 ∧ x = (i : Int) ∧ 1 ≤ l ∧ l ≤ t ∧ (nat ls)[i]'(by rw [nat_len]; exact hi) = l ∧ wordN (nat ls) i = rvs v l ∧ (∀ k, 1 ≤ k → k < l → signsG ls ws ls.length (wd (k : Int) ((rvs v k : Nat) : Int)) = none) ∧ a' = a + l) ∨
    (x = -1 ∧ a' = a ∧ (∀ k, 1 ≤ k → k ≤ t → signsG ls ws ls.length (wd (k : Int) ((rvs v k : Nat) : Int)) = none) ∧
    (er = 3 ∧ (t : Int) < m ∧ (∃ i, i < ls.length ∧ goesP ls ws (rvs v t) t i) ∨ er = 10 ∧ ((t : Int) < m → ¬ ∃ i, i < ls.length ∧ goesP ls ws (rvs v t) t i))))) := ⟨fun x er a' => by unfold SignR; rw [hm, Int.toNat_natCast, ht]; dsimp only; rw [hv]⟩
  clear hP hA1 hA2 hM hk hpk hI hB hc2 hv ht hm
  go_enter Try.func11, Try.ntmps11
  go_wp2_with (first
    | (go_at_call 25; refine (bits_Reader_Err.calls g s (a : Int) 0 _ _ _ _ w0 _ HI.out HB.out rfl).mono ?_; rintro e w1 ⟨rfl, hi, hb, hkb⟩; have HI1 := Aside0.mk hi; have HB1 := Aside0.mk hb; have HKB1 := Aside0.mk hkb; clear hi hb hkb; replace hc3 := (HB1.out.cell (World.block_lt_of_cell? w0 _ HC3.out)).trans HC3.out)
    | (go_at_call 26; refine (bits_Reader_Peek.calls 50 g s (a : Int) 0 (m : Int) _ _ _ _ _ w0 _ HI1.out HB1.out HPK.out).mono ?_; rintro e w2 ⟨rfl, hi, hb, hkb⟩; have HI2 := Aside0.mk hi; have HB2 := Aside0.mk hb; have HKB2 := Aside0.mk (HKB1.out.trans hkb (.inl rfl)); clear hi hb hkb))
  go_loopw [8, 9] (fun v8 v9 wr => ∃ l : Nat, v9 = .int .i64 ((l + 1 : Nat) : Int) ∧ l ≤ t ∧ v8 = .int .u32 ((rvs v l : Nat) : Int) ∧ Aside0 (∀ k, 1 ≤ k → k ≤ l → signsG ls ws ls.length (wd (k : Int) ((rvs v k : Nat) : Int)) = none) ∧ Aside0 (IsS70 w0 wr g s a 0) ∧ Aside0 (Below w0.heap.size w0 wr) ∧ Aside0 (KeepBut w wr g none))
    (fun _ v9 _ => t + 2 - (intOf v9).toNat)
  case atStart => exact ⟨0, rfl, by omega, rfl, ⟨fun k h1 h2 => by omega⟩, HI2, HB2, HKB2⟩
  case round =>
    clear HI2 HB2 HKB2 HI1 HB1 HKB1 HI HB hc3
    obtain ⟨l, rfl, hl, rfl, HNO, HI, HB, HKW⟩ := hrel
    have hc3 := (HB.out.cell (World.block_lt_of_cell? w0 _ HC3.out)).trans HC3.out
    have hc2 := (HB.out.cell (World.block_lt_of_cell? w0 _ HC2.out)).trans HC2.out
    by_cases hlt : l < t
    · have hd : decide ((l : Int) + 1 ≤ (t : Int)) = true := decide_eq_true (by omega)
      have hd2 : decide (l + 1 ≤ t) = true := decide_eq_true (by omega)
      have hrl := rvs_lt v l
      have hr15 : (2 : Nat) ^ l ≤ 2 ^ 15 := Nat.pow_le_pow_right (by omega) (by omega)
      have e2 := and1 (v / 2 ^ l) (Nat.lt_of_le_of_lt (Nat.div_le_self _ _) (by omega))
      have e3 := or_bit (rvs v l) (v / 2 ^ l % 2) (by omega) (by omega)
      have e4 : 2 * rvs v l + v / 2 ^ l % 2 = rvs v (l + 1) := rfl
      have hbit : Go.bits .or .u32 (((rvs v l : Nat) : Int) * 2) (Go.bits .and .u32 ((v : Int) / 2 ^ l) 1) = ((rvs v (l + 1) : Nat) : Int) := by
        rw [e4] at e3
        rw [show (v : Int) / 2 ^ l = ((v / 2 ^ l : Nat) : Int) by simp, e2, show ((rvs v l : Nat) : Int) * 2 = ((2 * rvs v l : Nat) : Int) by omega, e3]
      clear e2 e3 e4
      have hM : OwnsV encW wr mb (signsG ls ws ls.length) := HM.out.below HB.out
      have hlook := lookup_run (t := 64) (ok := true) keyedW Try.underlying64 zeroI encW_inj key_okW hM (wd ((l + 1 : Nat) : Int) ((rvs v (l + 1) : Nat) : Int))
      have hr2 := rvs_lt v (l + 1)
      have hr3 : (2 : Nat) ^ (l + 1) ≤ 2 ^ 15 := Nat.pow_le_pow_right (by omega) (by omega)
      rw [enc_wd _ _ (by omega) (by omega) (by omega) (by omega)] at hlook
      rw [show (((l + 1 : Nat) : Int)) = (l : Int) + 1 by omega] at hlook
      obtain ⟨q, hq⟩ : ∃ q, rvs v (l + 1) = q := ⟨_, rfl⟩
      have HQ := Aside0.mk hq
      rw [hq] at hbit hlook hr2
      have hq32 : q < 4294967296 := by omega
      have hrl2 : rvs v l < 65536 := by omega
      clear hM hq hr3 hrl hr15 hr2
      cases hG : signsG ls ws ls.length (wd ((l : Int) + 1) (q : Int)) with
      | none =>
        rw [hG] at hlook
        have HG := Aside0.mk hG
        clear hG
        simp only [Option.getD_none, Option.isSome_none, if_true] at hlook
        go_wp2
        refine ⟨⟨l + 1, by go_num, by omega, by rw [HQ.out], ⟨fun k h1 h2 => ?_⟩, HI, HB, HKW⟩, by simp [intOf]; omega⟩
        by_cases hkl : k = l + 1
        · subst hkl
          rw [HQ.out]
          exact HG.out
        · exact HNO.out k h1 (by omega)
      | some u =>
        rw [hG] at hlook
        obtain ⟨i, hi, rfl, _, h1, h2⟩ := HK.out.look (l + 1) q (by omega) hq32 u (by rw [← hG]; rfl)
        clear hG
        simp only [Option.getD_some, Option.isSome_some, if_true] at hlook
        have hsk := skip_in s a (l + 1) hs (by omega)
        have HSK := Aside0.mk hsk
        clear hsk
        go_wp2_with (go_at_call 27; refine (bits_Reader_Skip.calls g s (a : Int) 0 ((l + 1 : Nat) : Int) _ _ _ w0 _ HI.out HB.out HSK.out).mono ?_; rintro e w3 ⟨rfl, hi3, hb3, hkb3⟩; have HI3 := Aside0.mk hi3; have HB3 := Aside0.mk hb3; have HKB3 := Aside0.mk (HKW.out.trans hkb3 (.inl rfl)); clear hi3 hb3 hkb3)
        go_ret2
        refine ⟨(i : Int), 0, a + (l + 1), rfl, (HR.out _ _ _).2 (.inl ⟨i, l + 1, hi, rfl, rfl, by omega, by omega, h1, h2.trans HQ.out.symm, fun k q1 q2 => HNO.out k q1 (by omega), rfl⟩), by omega, HI3.out, HB3.out, HKB3.out⟩
    · have hd : decide ((l : Int) + 1 ≤ (t : Int)) = false := decide_eq_false (by omega)
      have hd2 : decide (l + 1 ≤ t) = false := decide_eq_false (by omega)
      obtain rfl : l = t := by omega
      have hr2 := rvs_lt v l
      by_cases hm : l < m
      · have hm1 : decide (l < m) = true := decide_eq_true hm
        go_wp2_with (go_at_call 28; refine (goes_calls p (rvs v l) l ls ws _ HK.out (HC.out.below HB.out) (by omega) (by omega)).mono ?_; rintro e w3 ⟨b, rfl, hb1, hb2⟩; have HB1 := Aside0.mk hb1; have HB2 := Aside0.mk hb2; clear hb1 hb2)
        · rename_i hb
          go_ret2
          exact ⟨-1, 3, a, rfl, (HR.out _ _ _).2 (.inr ⟨rfl, rfl, HNO.out, .inl ⟨rfl, by omega, HB1.out.1 hb⟩⟩), ha, IsS70.below HI.out HB2.out, below_step HB.out HB2.out, HKW.out.trans (KeepBut.of_below HB2.out _ none) (.inl rfl)⟩
        · rename_i hb
          go_ret2
          exact ⟨-1, 10, a, rfl, (HR.out _ _ _).2 (.inr ⟨rfl, rfl, HNO.out, .inr ⟨rfl, fun _ q => by rw [HB1.out.2 q] at hb; cases hb⟩⟩), ha, IsS70.below HI.out HB2.out, below_step HB.out HB2.out, HKW.out.trans (KeepBut.of_below HB2.out _ none) (.inl rfl)⟩
      · have hm1 : decide (l < m) = false := decide_eq_false hm
        go_wp2
        go_ret2
        refine ⟨-1, 10, a, rfl, (HR.out _ _ _).2 (.inr ⟨rfl, rfl, HNO.out, .inr ⟨rfl, fun q => absurd q (by omega)⟩⟩), ha, HI.out, HB.out, HKW.out⟩
end Go.Proofs.Ytlfcepdaicngjaa.Pk
