/- Plain: the words that prefix.Words makes are Kraft's words. -/
import Derived.Test.YtlfcepdaicngjaaPlain04
namespace Go.Proofs.Ytlfcepdaicngjaa.Pk
set_option linter.unusedVariables false
set_option linter.unusedSimpArgs false
open Go Go.RowKit Go.Proofs.Ytlfcepdaicngjaa.P Go.Proofs.YtlfcepdaicngjaaW.PrintWords Go.Proofs.YtlfcepdaicngjaaW.PrintLast Go.Proofs.YtlfcepdaicngjaaW.PrintMore
/-- Lengths as natural numbers. -/
def nat (l : List Int) : List Nat := l.map Int.toNat
theorem nat_len (l : List Int) : (nat l).length = l.length := by simp [nat]
theorem nat_get (l : List Int) (i : Nat) (h : i < l.length) : (nat l)[i]'(by rw [nat_len]; exact h) = l[i].toNat := by simp [nat]
theorem nat_getD (l : List Int) (i : Nat) : (nat l).getD i 0 = (l.getD i 0).toNat := by
  rw [List.getD_eq_getElem?_getD, List.getD_eq_getElem?_getD, nat, List.getElem?_map]
  cases l[i]? <;> rfl
theorem getD_set (l : List Int) (i n : Nat) (v : Int) : (l.set i v).getD n 0 = if n = i ∧ i < l.length then v else l.getD n 0 := by
  rw [List.getD_eq_getElem?_getD, List.getD_eq_getElem?_getD, List.getElem?_set]
  by_cases h : i = n
  · subst h
    by_cases h2 : i < l.length
    · simp [h2]
    · simp [h2]
  · rw [if_neg h, if_neg (by omega)]
theorem cnt_gen : ∀ (l xs : List Int), xs.length = 17 → (∀ x ∈ l, 0 ≤ x ∧ x ≤ 15) → (∀ n, 0 ≤ xs.getD n 0 ∧ xs.getD n 0 + l.length < 4294967296) → ∀ n,
    (l.foldl (fun xs x => xs.set x.toNat ((xs.getD x.toNat 0 + 1) % 4294967296)) xs).getD n 0 = xs.getD n 0 + ((nat l).count n : Nat)
  | [], xs, _, _, _, n => by simp [nat]
  | x :: l, xs, h17, hx, hb, n => by
    have hx0 := hx x (by simp)
    have hbx := hb x.toNat
    simp only [List.length_cons] at hbx hb
    have hm : (xs.getD x.toNat 0 + 1) % 4294967296 = xs.getD x.toNat 0 + 1 := by omega
    rw [List.foldl_cons, hm, cnt_gen l _ (by rw [List.length_set]; exact h17) (fun y hy => hx y (by simp [hy])) ?_ n]
    · rw [getD_set]
      have hc : (nat (x :: l)).count n = (nat l).count n + if x.toNat = n then 1 else 0 := by
        simp only [nat, List.map_cons, List.count_cons, beq_iff_eq]
      rw [hc]
      by_cases h : n = x.toNat
      · subst h; rw [if_pos ⟨rfl, by omega⟩, if_pos rfl]; omega
      · rw [if_neg (fun q => h q.1), if_neg (fun q => h q.symm)]; omega
    · intro m
      have := hb m
      rw [getD_set]
      split
      · omega
      · omega
theorem zeros_get (n : Nat) : zeros17.getD n 0 = 0 := by
  rw [List.getD_eq_getElem?_getD]
  cases h : zeros17[n]? with
  | none => rfl
  | some v => exact List.eq_of_mem_replicate (List.mem_of_getElem? h)
theorem cnt_get (l : List Int) (hl : l.length ≤ 4096) (hx : ∀ x ∈ l, 0 ≤ x ∧ x ≤ 15) (n : Nat) : (cntW l).getD n 0 = ((nat l).count n : Nat) := by
  have := cnt_gen l zeros17 rfl hx (fun n => by rw [zeros_get]; omega) n
  rw [zeros_get, Int.zero_add] at this
  exact this
theorem next_get (L : List Nat) (hf : fillN L ≤ 32768) (c : List Int) (hc : ∀ n, 1 ≤ n → n ≤ 15 → c.getD n 0 = ((L.count n : Nat) : Int)) : ∀ m, m ≤ 15 → ∀ k, k ≤ m + 1 → (nextW c m).getD k 0 = ((firstN L k : Nat) : Int)
  | 0, _, k, hk => by
    rw [nextW, zeros_get]
    rcases (by omega : k = 0 ∨ k = 1) with rfl | rfl <;> simp [firstN, cn]
  | m + 1, hm, k, hk => by
    have ih := next_get L hf c hc m (by omega)
    rw [nextW, getD_set]
    by_cases h : k = m + 2
    · rw [if_pos ⟨h, by rw [nextW_len]; omega⟩, ih (m + 1) (by omega), hc (m + 1) (by omega) (by omega)]
      have h1 := first_fit L hf (m + 1) (by omega)
      have h2 : (2 : Nat) ^ (m + 1) ≤ 2 ^ 15 := Nat.pow_le_pow_right (by omega) (by omega)
      subst h
      have e : firstN L (m + 2) = 2 * (firstN L (m + 1) + cn L (m + 1)) := rfl
      have ec : cn L (m + 1) = L.count (m + 1) := by unfold cn; rw [if_neg (by omega)]
      rw [ec] at h1 e
      rw [e]
      omega
    · rw [if_neg (fun q => h q.1)]
      exact ih k (by omega)
theorem step_get (l : List Int) (hl : l.length ≤ 4096) (hx : ∀ x ∈ l, 0 ≤ x ∧ x ≤ 15) (hf : fillN (nat l) ≤ 32768) (c : List Int) (hc : ∀ n, 1 ≤ n → n ≤ 15 → c.getD n 0 = (((nat l).count n : Nat) : Int)) : ∀ i, i ≤ l.length →
    (∀ n, 1 ≤ n → n ≤ 15 → ((l.take i).foldl stepW (nextW c 15, [])).1.getD n 0 = ((firstN (nat l) n + ((nat l).take i).count n : Nat) : Int)) ∧
    (∀ j, j < i → ((l.take i).foldl stepW (nextW c 15, [])).2.getD j 0 = if 0 < l.getD j 0 then ((wordN (nat l) j : Nat) : Int) else 0)
  | 0, _ => by
    refine ⟨fun n h1 h2 => ?_, fun j hj => absurd hj (Nat.not_lt_zero _)⟩
    have := next_get (nat l) hf c hc 15 (by omega) n (by omega)
    simpa using this
  | i + 1, hi => by
    obtain ⟨ih1, ih2⟩ := step_get l hl hx hf c hc i (by omega)
    have hil : i < l.length := by omega
    have hfl := foldW_len (l.take i) (nextW c 15, [])
    have hl1 := hfl.1.trans (nextW_len c 15)
    have hl2 : ((l.take i).foldl stepW (nextW c 15, [])).2.length = i := by rw [hfl.2, List.length_take]; simp; omega
    have hxi := hx _ (List.getElem_mem hil)
    have hg : l.getD i 0 = l[i] := by rw [List.getD_eq_getElem?_getD, List.getElem?_eq_getElem hil]; rfl
    have ht : (nat l).take (i + 1) = (nat l).take i ++ [l[i].toNat] := by rw [List.take_succ_eq_append_getElem (by rw [nat_len]; exact hil), nat_get l i hil]
    rw [List.take_succ_eq_append_getElem hil, wordsW_snoc]
    have hwn : wordN (nat l) i = firstN (nat l) l[i].toNat + ((nat l).take i).count l[i].toNat := by
      unfold wordN
      rw [nat_getD, hg]
    obtain ⟨p, hp⟩ : ∃ p, (l.take i).foldl stepW (nextW c 15, []) = p := ⟨_, rfl⟩
    rw [hp] at ih1 ih2 hl1 hl2 ⊢
    have hap : ∀ v : Int, ∀ j, j < i + 1 → (p.2 ++ [v]).getD j 0 = if j = i then v else p.2.getD j 0 := by
      intro v j hj
      rw [List.getD_eq_getElem?_getD, List.getD_eq_getElem?_getD]
      by_cases h : j = i
      · rw [List.getElem?_append_right (by omega), hl2, h]; simp
      · rw [List.getElem?_append_left (by omega), if_neg h]
    unfold stepW
    by_cases hz : l[i] > 0
    · rw [if_pos hz]
      have h1 := first_fit (nat l) hf l[i].toNat (by omega)
      have h2 : (2 : Nat) ^ l[i].toNat ≤ 2 ^ 15 := Nat.pow_le_pow_right (by omega) (by omega)
      have h3 := ih1 l[i].toNat (by omega) (by omega)
      have h4 : ((nat l).take i).count l[i].toNat ≤ 4096 := by
        have := List.count_le_length (a := l[i].toNat) (l := (nat l).take i)
        rw [List.length_take] at this
        omega
      refine ⟨fun n q1 q2 => ?_, fun j hj => ?_⟩
      · dsimp only
        rw [getD_set, ht, List.count_append, h3]
        by_cases h : n = l[i].toNat
        · rw [if_pos ⟨h, by omega⟩, ← h, List.count_singleton, if_pos (by simp)]
          have ec : cn (nat l) n = (nat l).count n := by unfold cn; rw [if_neg (by omega)]
          rw [← h, ec] at h1
          rw [← h] at h2 h4
          omega
        · rw [if_neg (fun q => h q.1), ih1 n q1 q2, List.count_singleton, if_neg (by simp; omega)]
          rfl
      · dsimp only
        rw [hap _ j hj]
        by_cases h : j = i
        · rw [if_pos h, h, hg, if_pos hz, h3, hwn]
        · rw [if_neg h]; exact ih2 j (by omega)
    · rw [if_neg hz]
      refine ⟨fun n q1 q2 => ?_, fun j hj => ?_⟩
      · dsimp only
        rw [ht, List.count_append, ih1 n q1 q2, List.count_singleton, if_neg (by simp; omega)]
        rfl
      · dsimp only
        rw [hap _ j hj]
        by_cases h : j = i
        · rw [if_pos h, h, hg, if_neg hz]
        · rw [if_neg h]; exact ih2 j (by omega)
/-- The words of lengths are Kraft's. -/
theorem words_get (l : List Int) (hok : okW l = true) (hf : fillN (nat l) ≤ 32768) (i : Nat) (hi : i < l.length) : (wordsW l).2.getD i 0 = if 0 < l.getD i 0 then ((wordN (nat l) i : Nat) : Int) else 0 := by
  obtain ⟨hl, hx⟩ : l.length ≤ 4096 ∧ ∀ x ∈ l, 0 ≤ x ∧ x ≤ 15 := by simpa [okW] using hok
  have := (step_get l hl hx hf ((cntW l).set 0 0) (fun n h1 h2 => by rw [getD_set, if_neg (fun q => by omega), cnt_get l hl hx n]) l.length (Nat.le_refl _)).2 i hi
  rw [List.take_length] at this
  exact this
end Go.Proofs.Ytlfcepdaicngjaa.Pk
