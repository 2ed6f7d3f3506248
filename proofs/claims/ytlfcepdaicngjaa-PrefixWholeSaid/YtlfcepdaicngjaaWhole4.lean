/- Plain: what a code's look-up tells; a whole code: any 15 bits begin with a word. -/
import Derived.Test.YtlfcepdaicngjaaVals4
import Derived.Test.YtlfcepdaicngjaaGivenew
namespace Go.Proofs.Ytlfcepdaicngjaa.Pk
set_option linter.unusedVariables false
set_option linter.unusedSimpArgs false
open Go Go.RowKit Go.Proofs.Ytlfcepdaicngjaa.P Go.Proofs.Ytlfcepdaicngjaa.MapV Go.Proofs.YtlfcepdaicngjaaW.PrintWords Go.Proofs.YtlfcepdaicngjaaW.PrintLast Go.Proofs.YtlfcepdaicngjaaW.PrintMore
/-- Bits in the other order. -/
def rvs (v : Nat) : Nat → Nat
  | 0 => 0
  | i + 1 => 2 * rvs v i + v / 2 ^ i % 2
theorem rvs_lt (v : Nat) : ∀ i, rvs v i < 2 ^ i
  | 0 => by simp [rvs]
  | i + 1 => by have := rvs_lt v i; rw [rvs, Nat.pow_succ]; omega
theorem rvs_pre (v : Nat) : ∀ l d, rvs v (l + d) / 2 ^ d = rvs v l
  | l, 0 => by simp
  | l, d + 1 => by
    rw [← Nat.add_assoc, rvs, Nat.pow_succ, Nat.mul_comm (2 ^ d) 2, ← Nat.div_div_eq_div_mul, show (2 * rvs v (l + d) + v / 2 ^ (l + d) % 2) / 2 = rvs v (l + d) by omega, rvs_pre v l d]
theorem fill_val (l0 : List Int) (n : Int) (hl : l0.length ≤ 4096) (hx : ∀ x ∈ l0, 0 ≤ x ∧ x ≤ 15) : ∀ (k : Nat) (acc : Int) (i : Nat), i ≤ l0.length → 0 ≤ acc → acc ≤ 32768 * i → prefix_Fill.l0 k acc l0 (l0.length : Int) (i : Int) = some (n, 0) → n = acc + (fillN ((nat l0).drop i) : Nat)
  | 0, acc, i, _, _, _, h => by simp [prefix_Fill.l0] at h
  | k + 1, acc, i, h0, ha, hb, h => by
    by_cases hi : i < l0.length
    · have hw : wrap64 ((i : Int) + 1) = ((i + 1 : Nat) : Int) := by unfold wrap64; omega
      have hr : rd l0 (i : Int) = l0[i] := by
        unfold rd
        rw [Int.toNat_natCast, List.getD_eq_getElem?_getD, List.getElem?_eq_getElem hi, Option.getD_some]
      have hxi := hx _ (List.getElem_mem hi)
      have hd : (nat l0).drop i = l0[i].toNat :: (nat l0).drop (i + 1) := by rw [List.drop_eq_getElem_cons (by rw [nat_len]; exact hi), nat_get l0 i hi]
      have hf : fillN ((nat l0).drop i) = unit l0[i].toNat + fillN ((nat l0).drop (i + 1)) := by rw [hd]; simp [fillN]
      rw [prefix_Fill.l0, if_pos (by omega), if_pos (by omega), if_pos (by omega), hw, hr, if_neg (by omega)] at h
      obtain ⟨x, hxx⟩ : ∃ x : Nat, l0[i] = (x : Int) := ⟨l0[i].toNat, by omega⟩
      rw [hxx] at h hxi hf
      rw [Int.toNat_natCast] at hf
      by_cases hz : 0 < x
      · rw [if_pos (by omega), if_pos (by omega)] at h
        have hs : shr .i64 32768 (x : Int) = ((2 ^ (15 - x) : Nat) : Int) := by
          unfold shr
          rw [Int.toNat_natCast, Nat.min_eq_left (by simp [IntKind.bits]; omega)]
          rcases (by omega : x = 1 ∨ x = 2 ∨ x = 3 ∨ x = 4 ∨ x = 5 ∨ x = 6 ∨ x = 7 ∨ x = 8 ∨ x = 9 ∨ x = 10 ∨ x = 11 ∨ x = 12 ∨ x = 13 ∨ x = 14 ∨ x = 15) with rfl | rfl | rfl | rfl | rfl | rfl | rfl | rfl | rfl | rfl | rfl | rfl | rfl | rfl | rfl <;> rfl
        have hp : (2 : Nat) ^ (15 - x) ≤ 2 ^ 15 := Nat.pow_le_pow_right (by omega) (by omega)
        have hu : unit x = 2 ^ (15 - x) := by unfold unit; rw [if_neg (by omega)]
        rw [hs] at h
        have hw2 : wrap64 (acc + ((2 ^ (15 - x) : Nat) : Int)) = acc + ((2 ^ (15 - x) : Nat) : Int) := by unfold wrap64; omega
        rw [hw2] at h
        have := fill_val l0 n hl hx k _ (i + 1) (by omega) (by omega) (by omega) h
        rw [hf, hu]
        omega
      · rw [if_neg (by omega)] at h
        have hu : unit x = 0 := by unfold unit; rw [if_pos (by omega)]
        have := fill_val l0 n hl hx k _ (i + 1) (by omega) (by omega) (by omega) h
        rw [hf, hu]
        omega
    · rw [prefix_Fill.l0, if_neg (by omega)] at h
      simp only [Option.some.injEq, Prod.mk.injEq, and_true] at h
      rw [List.drop_of_length_le (by rw [nat_len]; omega)]
      simp [fillN, h]
theorem fill_is (l0 : List Int) (n : Int) (hok : okW l0 = true) (h : prefix_Fill.f 5000 l0 = some (n, 0)) : n = ((fillN (nat l0) : Nat) : Int) := by
  obtain ⟨hl, hx⟩ : l0.length ≤ 4096 ∧ ∀ x ∈ l0, 0 ≤ x ∧ x ≤ 15 := by simpa [okW] using hok
  unfold prefix_Fill.f at h
  rw [if_neg (by omega)] at h
  have := fill_val l0 n hl hx 5000 0 0 (by omega) (by omega) (by omega) h
  simpa using this
theorem upTo_all (m : Nat) : ∀ (l : List Nat), (∀ x ∈ l, x ≤ m) → upTo l m = fillN l
  | [], _ => by
    have : ∀ m, upTo [] m = 0 := by intro m; induction m with | zero => rfl | succ m ih => simp [upTo, ih, cn]
    rw [this]; rfl
  | x :: l, h => by
    have hx := h x (by simp)
    have ih := upTo_all m l (fun y hy => h y (by simp [hy]))
    rw [upTo_cons, ih]
    unfold fillN
    rw [List.map_cons, List.sum_cons]
    unfold unit
    by_cases h0 : x = 0
    · rw [if_neg (by omega), if_pos h0]; omega
    · rw [if_pos (by omega), if_neg h0]; omega
theorem locate (L : List Nat) (V : Nat) : ∀ m, V < upTo L m → ∃ k, k < m ∧ upTo L k ≤ V ∧ V < upTo L (k + 1)
  | 0, h => by simp [upTo] at h
  | m + 1, h => by
    by_cases hv : V < upTo L m
    · obtain ⟨k, h1, h2⟩ := locate L V m hv
      exact ⟨k, by omega, h2⟩
    · exact ⟨m, by omega, by omega, h⟩
theorem nth_count (x : Nat) : ∀ (L : List Nat) (k : Nat), k < L.count x → ∃ i, ∃ h : i < L.length, L[i] = x ∧ (L.take i).count x = k
  | [], k, h => by simp at h
  | y :: L, k, h => by
    rw [List.count_cons] at h
    by_cases he : y = x
    · cases k with
      | zero => exact ⟨0, by simp, by simpa using he, by simp⟩
      | succ k =>
        rw [if_pos (by simpa using he)] at h
        obtain ⟨i, hi, h1, h2⟩ := nth_count x L k (by omega)
        exact ⟨i + 1, by simpa using hi, by simpa using h1, by rw [List.take_succ_cons, List.count_cons, h2, if_pos (by simpa using he)]⟩
    · rw [if_neg (by simpa using he)] at h
      obtain ⟨i, hi, h1, h2⟩ := nth_count x L k (by omega)
      exact ⟨i + 1, by simpa using hi, by simpa using h1, by rw [List.take_succ_cons, List.count_cons, h2, if_neg (by simpa using he)]; rfl⟩
/-- Of a whole code any 15 bits begin with a word. -/
theorem cover (L : List Nat) (hf : fillN L = 32768) (h15 : ∀ x ∈ L, x ≤ 15) (V : Nat) (hV : V < 32768) : ∃ i, ∃ h : i < L.length, 0 < L[i] ∧ V / 2 ^ (15 - L[i]) = wordN L i := by
  have hall := upTo_all 15 L h15
  obtain ⟨m, hm, h1, h2⟩ := locate L V 15 (by omega)
  have e1 := first_upTo L m (by omega)
  rw [upTo, show 15 - (m + 1) = 14 - m by omega, ← e1, ← Nat.add_mul] at h2
  rw [← e1] at h1
  have hp : 0 < 2 ^ (14 - m) := Nat.pow_pos (by omega)
  have h3 := (Nat.le_div_iff_mul_le hp).2 h1
  have h4 := (Nat.div_lt_iff_lt_mul hp).2 h2
  have hc : cn L (m + 1) = L.count (m + 1) := by unfold cn; rw [if_neg (by omega)]
  obtain ⟨i, hi, h5, h6⟩ := nth_count (m + 1) L (V / 2 ^ (14 - m) - firstN L (m + 1)) (by omega)
  refine ⟨i, hi, by omega, ?_⟩
  have hg : L.getD i 0 = m + 1 := by rw [List.getD_eq_getElem?_getD, List.getElem?_eq_getElem hi, Option.getD_some, h5]
  unfold wordN
  rw [hg, h6, h5, show 15 - (m + 1) = 14 - m by omega]
  omega
theorem mostW_ge (ls : List Int) : ∀ j, 0 ≤ mostW ls j ∧ ∀ i, i < j → ls.getD i 0 ≤ mostW ls j
  | 0 => ⟨by simp [mostW], fun i h => absurd h (Nat.not_lt_zero _)⟩
  | j + 1 => by
    obtain ⟨h0, h1⟩ := mostW_ge ls j
    rw [mostW]
    refine ⟨by split <;> omega, fun i hi => ?_⟩
    by_cases he : i = j
    · subst he; split <;> omega
    · have := h1 i (by omega); split <;> omega
theorem signs_tell (ls ws : List Int) (t : Wd) (u : Value) : ∀ j, signsG ls ws j t = some u → ∃ i, i < j ∧ u = .int .i64 (i : Int) ∧ ls.getD i 0 > 0 ∧ t = wd (ls.getD i 0) (ws.getD i 0)
  | 0, h => by simp [signsG] at h
  | j + 1, h => by
    rw [signsG] at h
    by_cases hz : ls.getD j 0 > 0
    · rw [if_pos hz] at h
      unfold upd at h
      by_cases ht : t = wd (ls.getD j 0) (ws.getD j 0)
      · rw [if_pos ht] at h
        exact ⟨j, by omega, by injection h with h; exact h.symm, hz, ht⟩
      · rw [if_neg ht] at h
        obtain ⟨i, h1, h2⟩ := signs_tell ls ws t u j h
        exact ⟨i, by omega, h2⟩
    · rw [if_neg hz] at h
      obtain ⟨i, h1, h2⟩ := signs_tell ls ws t u j h
      exact ⟨i, by omega, h2⟩
theorem signs_there (ls ws : List Int) (i : Nat) (hi : ls.getD i 0 > 0) : ∀ j, i < j → ∃ u, signsG ls ws j (wd (ls.getD i 0) (ws.getD i 0)) = some u
  | 0, h => absurd h (Nat.not_lt_zero _)
  | j + 1, h => by
    rw [signsG]
    by_cases he : i = j
    · subst he
      rw [if_pos hi]
      exact ⟨_, by unfold upd; rw [if_pos rfl]⟩
    · obtain ⟨u, hu⟩ := signs_there ls ws i hi j (by omega)
      split
      · unfold upd
        split
        · exact ⟨_, rfl⟩
        · exact ⟨u, hu⟩
      · exact ⟨u, hu⟩
theorem wd_inj (x v y u : Int) (h0 : 0 ≤ x) (h1 : x < 256) (h2 : 0 ≤ v) (h3 : v < 4294967296) (k0 : 0 ≤ y) (k1 : y < 256) (k2 : 0 ≤ u) (k3 : u < 4294967296) (h : wd x v = wd y u) : x = y ∧ v = u := by
  have e := congrArg encW h
  rw [enc_wd x v h0 h1 h2 h3, enc_wd y u k0 k1 k2 k3] at e
  simpa using e
/-- What New knows of a code. -/
structure CodeOk (ls ws : List Int) : Prop where
  len : ws.length = ls.length
  few : ls.length ≤ 4096
  rng : ∀ x ∈ ls, 0 ≤ x ∧ x ≤ 15
  fit : fillN (nat ls) ≤ 32768
  val : ∀ i, i < ls.length → ws.getD i 0 = if 0 < ls.getD i 0 then ((wordN (nat ls) i : Nat) : Int) else 0
theorem code_ok (l : List Int) (n : Int) (hok : okW l = true) (hF : prefix_Fill.f 5000 l = some (n, 0)) (hn : n ≤ 32768) : CodeOk l (wordsW l).2 := by
  have hn2 := fill_is l n hok hF
  have hf : fillN (nat l) ≤ 32768 := by omega
  obtain ⟨hl, hx⟩ : l.length ≤ 4096 ∧ ∀ x ∈ l, 0 ≤ x ∧ x ≤ 15 := by simpa [okW] using hok
  exact ⟨wordsW_length l, hl, hx, hf, fun i hi => words_get l hok hf i hi⟩
section
variable {ls ws : List Int} (h : CodeOk ls ws)
include h
theorem CodeOk.at_ (i : Nat) (hi : i < ls.length) : ls.getD i 0 = (((nat ls)[i]'(by rw [nat_len]; exact hi) : Nat) : Int) ∧ (nat ls)[i]'(by rw [nat_len]; exact hi) ≤ 15 := by
  have hg : ls.getD i 0 = ls[i] := by rw [List.getD_eq_getElem?_getD, List.getElem?_eq_getElem hi]; rfl
  have := h.rng _ (List.getElem_mem hi)
  rw [nat_get ls i hi, hg]
  omega
theorem CodeOk.word (i : Nat) (hi : i < ls.length) (hp : 0 < (nat ls)[i]'(by rw [nat_len]; exact hi)) : ws.getD i 0 = ((wordN (nat ls) i : Nat) : Int) ∧ wordN (nat ls) i < 2 ^ (nat ls)[i]'(by rw [nat_len]; exact hi) ∧ wordN (nat ls) i < 32768 := by
  obtain ⟨h1, h2⟩ := h.at_ i hi
  have h3 := h.val i hi
  rw [if_pos (by omega)] at h3
  have h4 := word_fit (nat ls) h.fit i (by rw [nat_len]; exact hi) hp h2
  have h5 : (2 : Nat) ^ (nat ls)[i]'(by rw [nat_len]; exact hi) ≤ 2 ^ 15 := Nat.pow_le_pow_right (by omega) h2
  exact ⟨h3, h4, by omega⟩
theorem CodeOk.look (x v : Nat) (hx : x ≤ 15) (hv : v < 4294967296) (u : Value) (hu : signsG ls ws ls.length (wd x v) = some u) : ∃ i, ∃ hi : i < ls.length, u = .int .i64 (i : Int) ∧ 0 < x ∧ (nat ls)[i]'(by rw [nat_len]; exact hi) = x ∧ wordN (nat ls) i = v := by
  obtain ⟨i, hi, h1, h2, h3⟩ := signs_tell ls ws _ u _ hu
  obtain ⟨h4, h5⟩ := h.at_ i hi
  obtain ⟨h6, h7, h8⟩ := h.word i hi (by omega)
  rw [h4, h6] at h3
  obtain ⟨e1, e2⟩ := wd_inj _ _ _ _ (by omega) (by omega) (by omega) (by omega) (by omega) (by omega) (by omega) (by omega) h3
  exact ⟨i, hi, h1, by omega, by omega, by omega⟩
theorem CodeOk.has (i : Nat) (hi : i < ls.length) (hp : 0 < (nat ls)[i]'(by rw [nat_len]; exact hi)) : signsG ls ws ls.length (wd (((nat ls)[i]'(by rw [nat_len]; exact hi) : Nat) : Int) ((wordN (nat ls) i : Nat) : Int)) = some (.int .i64 (i : Int)) := by
  obtain ⟨h4, h5⟩ := h.at_ i hi
  obtain ⟨h6, h7, h8⟩ := h.word i hi hp
  obtain ⟨u, hu⟩ := signs_there ls ws i (by omega) ls.length hi
  rw [h4, h6] at hu
  obtain ⟨k, hk, e1, e2, e3, e4⟩ := h.look _ _ h5 (by omega) u hu
  have := word_inj (nat ls) k i (by rw [nat_len]; exact hk) (by rw [nat_len]; exact hi) e3 e4
  rw [hu, e1, this]
theorem CodeOk.most (i : Nat) (hi : i < ls.length) : (((nat ls)[i]'(by rw [nat_len]; exact hi) : Nat) : Int) ≤ mostW ls ls.length := by
  rw [← (h.at_ i hi).1]
  exact (mostW_ge ls ls.length).2 i hi
/-- Where a whole code tells no sign, a word goes on. -/
theorem CodeOk.whole (hw : fillN (nat ls) = 32768) (v t : Nat) (ht : t ≤ 15) (hno : ∀ l, 1 ≤ l → l ≤ t → signsG ls ws ls.length (wd (l : Int) ((rvs v l : Nat) : Int)) = none) :
    (t : Int) < mostW ls ls.length ∧ ∃ i, ∃ hi : i < ls.length, t < (nat ls)[i]'(by rw [nat_len]; exact hi) ∧ wordN (nat ls) i / 2 ^ ((nat ls)[i]'(by rw [nat_len]; exact hi) - t) = rvs v t := by
  have h15 : ∀ x ∈ nat ls, x ≤ 15 := by
    intro x hx
    obtain ⟨i, hi, rfl⟩ := List.mem_iff_getElem.1 hx
    exact (h.at_ i (by rw [nat_len] at hi; exact hi)).2
  have hV : rvs v t * 2 ^ (15 - t) < 32768 := by
    calc rvs v t * 2 ^ (15 - t) < 2 ^ t * 2 ^ (15 - t) := Nat.mul_lt_mul_of_pos_right (rvs_lt v t) (Nat.pow_pos (by omega))
      _ = 32768 := by rw [← Nat.pow_add, show t + (15 - t) = 15 by omega]
  obtain ⟨i, hi, h1, h2⟩ := cover (nat ls) hw h15 _ hV
  have hi' : i < ls.length := by rw [nat_len] at hi; exact hi
  have h3 := h15 _ (List.getElem_mem hi)
  have hm := h.most i hi'
  have hlt : t < (nat ls)[i] := by
    apply Nat.lt_of_not_le
    intro hle
    obtain ⟨d, hd⟩ : ∃ d, t = (nat ls)[i] + d := ⟨t - (nat ls)[i], by omega⟩
    have e : rvs v t * 2 ^ (15 - t) / 2 ^ (15 - (nat ls)[i]) = rvs v (nat ls)[i] := by
      rw [show 15 - (nat ls)[i] = (15 - t) + d by omega, Nat.pow_add, ← Nat.div_div_eq_div_mul, Nat.mul_div_cancel _ (Nat.pow_pos (by omega))]
      have := rvs_pre v (nat ls)[i] d
      rw [← hd] at this
      exact this
    have hn := hno (nat ls)[i] (by omega) hle
    rw [← e, h2, h.has i hi' h1] at hn
    cases hn
  refine ⟨by omega, i, hi', hlt, ?_⟩
  rw [← h2, Nat.div_div_eq_div_mul, ← Nat.pow_add, show 15 - (nat ls)[i] + ((nat ls)[i] - t) = 15 - t by omega, Nat.mul_div_cancel _ (Nat.pow_pos (by omega))]
end
end Go.Proofs.Ytlfcepdaicngjaa.Pk
