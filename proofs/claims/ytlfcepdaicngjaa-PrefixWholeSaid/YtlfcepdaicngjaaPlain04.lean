/- Plain: lengths that Fill takes. -/
import Derived.Test.YtlfcepdaicngjaaGivewords
import Derived.Test.YtlfcepdaicngjaaKraft
import Derived.Test.YtlfcepdaicngjaaPx1
namespace Go.Proofs.Ytlfcepdaicngjaa.Pk
set_option linter.unusedVariables false
set_option linter.unusedSimpArgs false
open Go Go.RowKit Go.Proofs.Ytlfcepdaicngjaa.P Go.Proofs.YtlfcepdaicngjaaW.PrintWords Go.Proofs.YtlfcepdaicngjaaW.PrintLast Go.Proofs.YtlfcepdaicngjaaW.PrintMore
/-- Where the loop answers OK, no length that it saw is above 15. -/
theorem fill_le (l0 : List Int) (n : Int) (hl : l0.length ≤ 4096) : ∀ (k : Nat) (acc i : Int), 0 ≤ i → prefix_Fill.l0 k acc l0 (l0.length : Int) i = some (n, 0) → ∀ j : Int, i ≤ j → j < l0.length → rd l0 j ≤ 15
  | 0, acc, i, _, h, _, _, _ => by simp [prefix_Fill.l0] at h
  | k + 1, acc, i, h0, h, j, hj, hj2 => by
    have hw : wrap64 (i + 1) = i + 1 := by unfold wrap64; omega
    rw [prefix_Fill.l0, if_pos (by omega), if_pos h0, if_pos (by omega), hw] at h
    by_cases h15 : rd l0 i > 15
    · rw [if_pos h15] at h; simp at h
    · rw [if_neg h15] at h
      by_cases he : j = i
      · subst he; omega
      · split at h
        · split at h
          · exact fill_le l0 n hl k _ _ (by omega) h j (by omega) hj2
          · simp at h
        · exact fill_le l0 n hl k _ _ (by omega) h j (by omega) hj2
theorem fill_okW (l0 : List Int) (n : Int) (hu : ∀ x ∈ l0, 0 ≤ x) (h : prefix_Fill.f 5000 l0 = some (n, 0)) : okW l0 = true := by
  unfold prefix_Fill.f at h
  split at h
  · simp at h
  · rename_i hl
    have hl2 : l0.length ≤ 4096 := by omega
    have key := fill_le l0 n hl2 5000 0 0 (by omega) h
    simp only [okW, Bool.and_eq_true, decide_eq_true_eq, List.all_eq_true]
    refine ⟨hl2, fun x hx => ⟨hu x hx, ?_⟩⟩
    obtain ⟨i, hi, rfl⟩ := List.mem_iff_getElem.1 hx
    have := key (i : Int) (by omega) (by omega)
    unfold rd at this
    rwa [Int.toNat_natCast, List.getD_eq_getElem?_getD, List.getElem?_eq_getElem hi, Option.getD_some] at this
/-- What a number of 32 bits may be. -/
def B32 (l : List Int) : Prop := ∀ v ∈ l, 0 ≤ v ∧ v < 4294967296
theorem B32.set {l : List Int} (h : B32 l) (i : Nat) (v : Int) (hv : 0 ≤ v ∧ v < 4294967296) : B32 (l.set i v) := fun x hx => by
  rcases List.mem_or_eq_of_mem_set hx with hx | rfl
  · exact h x hx
  · exact hv
theorem B32.getD {l : List Int} (h : B32 l) (i : Nat) : 0 ≤ l.getD i 0 ∧ l.getD i 0 < 4294967296 := by
  rw [List.getD_eq_getElem?_getD]
  by_cases hi : i < l.length
  · rw [List.getElem?_eq_getElem hi]; exact h _ (List.getElem_mem hi)
  · rw [List.getElem?_eq_none (by omega)]; simp
theorem zeros_B32 : B32 zeros17 := fun v hv => by
  have := List.eq_of_mem_replicate hv
  omega
theorem nextW_B32 (c : List Int) : ∀ m, B32 (nextW c m)
  | 0 => zeros_B32
  | m + 1 => by rw [nextW]; exact (nextW_B32 c m).set _ _ (by omega)
theorem foldW_B32 (l : List Int) : ∀ p : List Int × List Int, B32 p.1 → B32 p.2 → B32 (l.foldl stepW p).2 := by
  induction l with
  | nil => intro p _ h; exact h
  | cons x l ih =>
    intro p h1 h2
    rw [List.foldl_cons]
    unfold stepW
    split
    · refine ih _ (h1.set _ _ (by omega)) ?_
      intro v hv
      rcases List.mem_append.1 hv with hv | hv
      · exact h2 v hv
      · rw [List.mem_singleton.1 hv]; exact h1.getD _
    · refine ih _ h1 ?_
      intro v hv
      rcases List.mem_append.1 hv with hv | hv
      · exact h2 v hv
      · rw [List.mem_singleton.1 hv]; omega
/-- The words have 32 bits, and there are as many as lengths. -/
theorem wordsW_B32 (l : List Int) : B32 (wordsW l).2 := foldW_B32 l _ (nextW_B32 _ _) (fun v hv => by simp at hv)
theorem wordsW_length (l : List Int) : (wordsW l).2.length = l.length := by
  have := (foldW_len l (nextW ((cntW l).set 0 0) 15, [])).2
  simpa [wordsW] using this
theorem fill_some (l0 : List Int) (hl : l0.length ≤ 4096) (hu : ∀ x ∈ l0, 0 ≤ x) : ∀ (k : Nat) (acc : Int) (i : Nat), i ≤ l0.length → l0.length - i < k → ∃ r, prefix_Fill.l0 k acc l0 (l0.length : Int) (i : Int) = some r
  | 0, acc, i, _, h => absurd h (Nat.not_lt_zero _)
  | k + 1, acc, i, h0, h => by
    by_cases hi : i < l0.length
    · have hw : wrap64 ((i : Int) + 1) = ((i + 1 : Nat) : Int) := by unfold wrap64; omega
      have hr : 0 ≤ rd l0 (i : Int) := by
        unfold rd
        rw [Int.toNat_natCast, List.getD_eq_getElem?_getD, List.getElem?_eq_getElem hi, Option.getD_some]
        exact hu _ (List.getElem_mem hi)
      rw [prefix_Fill.l0, if_pos (by omega), if_pos (by omega), if_pos (by omega), hw]
      split
      · exact ⟨_, rfl⟩
      · split
        · (try rw [if_pos hr]); exact fill_some l0 hl hu k _ (i + 1) (by omega) (by omega)
        · exact fill_some l0 hl hu k _ (i + 1) (by omega) (by omega)
    · rw [prefix_Fill.l0, if_neg (by omega)]; exact ⟨_, rfl⟩
theorem fill_total (l0 : List Int) (hu : ∀ x ∈ l0, 0 ≤ x) : ∃ n e, prefix_Fill.f 5000 l0 = some (n, e) := by
  unfold prefix_Fill.f
  split
  · exact ⟨_, _, rfl⟩
  · rename_i hl
    obtain ⟨⟨n, e⟩, h⟩ := fill_some l0 (by omega) hu 5000 0 0 (by omega) (by omega)
    exact ⟨n, e, h⟩
/-- Words answers at any lengths. -/
theorem words_total (l0 : List Int) (hu : ∀ x ∈ l0, 0 ≤ x) : ∃ n e, prefix_Fill.f 5000 l0 = some (n, e) ∧ prefix_Words.f l0 = some (if e = 0 then (if n > 32768 then ([], 10) else ((wordsW l0).2, 0)) else ([], e)) := by
  obtain ⟨n, e, h⟩ := fill_total l0 hu
  refine ⟨n, e, h, ?_⟩
  unfold prefix_Words.f
  rw [h]
  by_cases he : e = 0
  · subst he
    have hok := fill_okW l0 n hu h
    by_cases hn : n > 32768
    · simp [hn]
    · simp [hn, hok]
  · simp [he]
theorem few_some (l0 : List Int) (hl : l0.length ≤ 4096) : ∀ (k : Nat) (acc : Int) (i : Nat), i ≤ l0.length → l0.length - i < k → ∃ r, prefix_few.l0 k acc l0 (l0.length : Int) (i : Int) = some r
  | 0, acc, i, _, h => absurd h (Nat.not_lt_zero _)
  | k + 1, acc, i, h0, h => by
    by_cases hi : i < l0.length
    · have hw : wrap64 ((i : Int) + 1) = ((i + 1 : Nat) : Int) := by unfold wrap64; omega
      rw [prefix_few.l0, if_pos (by omega), if_pos (by omega), if_pos (by omega), hw]
      split
      · exact ⟨_, rfl⟩
      · exact few_some l0 hl k _ (i + 1) (by omega) (by omega)
    · rw [prefix_few.l0, if_neg (by omega)]; exact ⟨_, rfl⟩
theorem few_total (l0 : List Int) (hl : l0.length ≤ 4096) : ∃ b, prefix_few.f 5000 l0 = some b := few_some l0 hl 5000 0 0 (by omega) (by omega)
end Go.Proofs.Ytlfcepdaicngjaa.Pk
