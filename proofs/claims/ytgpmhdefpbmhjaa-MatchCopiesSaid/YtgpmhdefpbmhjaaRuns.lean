/- What tokens run through: a text's places, one after another. Plain Lean. -/
import Derived.Test.YtgpmhdefpbmhjaaFinder
namespace Go.Proofs.Ytgpmhdefpbmhjaa.Fi
set_option linter.unusedVariables false
set_option linter.unusedSimpArgs false
open Go Go.RowKit Go.Proofs.Ytgpmhdefpbmhjaa.P Go.Proofs.Ytgpmhdefpbmhjaa.B Go.Proofs.Ytgpmhdefpbmhjaa.D7 Go.Proofs.Ytgpmhdefpbmhjaa.Ch Go.Proofs.Ytgpmhdefpbmhjaa.MapG Go.Proofs.Ytgpmhdefpbmhjaa.MapV Go.Proofs.YtgpmhdefpbmhjaaW.PrintWords Go.Proofs.YtgpmhdefpbmhjaaW.PrintLast Go.Proofs.YtgpmhdefpbmhjaaW.PrintMore
abbrev Tok := S25
def Runs (s : ByteArray) : List Tok → Nat → Nat → Prop
  | [], p, q => p = q
  | t :: r, p, q => (t.f0 = bt s (p : Int) ∧ t.f1 = 0 ∧ t.f2 = 0 ∧ p < s.size ∧ Runs s r (p + 1) q) ∨ (t.f0 = 0 ∧ 3 ≤ t.f1 ∧ Fine s p t.f1 t.f2 ∧ Runs s r (p + t.f1.toNat) q)
theorem runs_app (s : ByteArray) : ∀ (a b : List Tok) (p q r : Nat), Runs s a p q → Runs s b q r → Runs s (a ++ b) p r
  | [], b, p, q, r, h, k => by
    have : p = q := h
    subst this; exact k
  | t :: a, b, p, q, r, h, k => by
    rcases h with ⟨h1, h2, h3, h4, h5⟩ | ⟨h1, h2, h3, h4⟩
    · exact .inl ⟨h1, h2, h3, h4, runs_app s a b _ q r h5 k⟩
    · exact .inr ⟨h1, h2, h3, runs_app s a b _ q r h4 k⟩
theorem runs_le (s : ByteArray) : ∀ (a : List Tok) (p q : Nat), Runs s a p q → p ≤ s.size → q ≤ s.size ∧ p + a.length ≤ q
  | [], p, q, h, hp => by
    have : p = q := h
    subst this; exact ⟨hp, by simp⟩
  | t :: a, p, q, h, hp => by
    rcases h with ⟨h1, h2, h3, h4, h5⟩ | ⟨h1, h2, h3, h4⟩
    · obtain ⟨x, y⟩ := runs_le s a _ q h5 (by omega)
      exact ⟨x, by simp only [List.length_cons]; omega⟩
    · obtain ⟨c1, c2, c3, _⟩ := h3
      obtain ⟨x, y⟩ := runs_le s a _ q h4 (by omega)
      exact ⟨x, by simp only [List.length_cons]; omega⟩
theorem take_cases (s : ByteArray) (e : S53) (p : Nat) : takeL s e p = 0 ∨ takeL s e p = (bestL s e p).1 := by
  unfold takeL
  split
  · exact .inl rfl
  · exact .inr rfl
theorem find_runs (s : ByteArray) (e : S53) : ∀ k p out, p ≤ s.size → s.size < k + p → Runs s out 0 p → Runs s (findGo s e k p out) 0 s.size
  | 0, p, out, h1, h2, h => by omega
  | k + 1, p, out, h1, h2, h => by
    unfold findGo
    split
    · next hp =>
      split
      · refine find_runs s e k (p + 1) _ (by omega) (by omega) (runs_app s out _ 0 p _ h ?_)
        exact .inl ⟨rfl, rfl, rfl, hp, rfl⟩
      · next h3 =>
        have hf := bestL_fine s e p h1
        have ht : takeL s e p = (bestL s e p).1 := by
          rcases take_cases s e p with q | q
          · omega
          · exact q
        have hf2 : Fine s p (takeL s e p) (bestL s e p).2 := by rw [ht]; exact hf
        refine find_runs s e k _ _ (by have := hf2.2.2.1; omega) (by omega) (runs_app s out _ 0 p _ h ?_)
        exact .inr ⟨rfl, Int.not_lt.1 h3, hf2, rfl⟩
    · next hp =>
      have : p = s.size := by omega
      subst this; exact h
theorem bytes_runs (s : ByteArray) : ∀ d p, p + d ≤ s.size → Runs s ((List.range' p d).map fun i : Nat => (⟨bt s (i : Int), 0, 0⟩ : Tok)) p (p + d)
  | 0, p, h => rfl
  | d + 1, p, h => by
    rw [List.range'_succ, List.map_cons]
    refine .inl ⟨rfl, rfl, rfl, by omega, ?_⟩
    have := bytes_runs s d (p + 1) (by omega)
    rwa [show p + 1 + d = p + (d + 1) by omega] at this
theorem findL_runs (s : ByteArray) (l : Int) (h0 : 0 ≤ l) (h9 : l ≤ 9) (hs : s.size ≤ 1048576) : Runs s (findL s l).1 0 s.size ∧ (findL s l).2 = 0 := by
  unfold findL
  rw [if_neg (by omega), if_neg (by omega)]
  split
  · refine ⟨?_, rfl⟩
    unfold bytesL
    rw [List.range_eq_range']
    have := bytes_runs s s.size 0 (by omega)
    rwa [Nat.zero_add] at this
  · exact ⟨find_runs s _ _ 0 [] (Nat.zero_le _) (by omega) rfl, rfl⟩
theorem bytes_flat (s : ByteArray) : ∀ t ∈ bytesL s, t.f1 = 0 := by
  intro t ht
  unfold bytesL at ht
  obtain ⟨i, _, rfl⟩ := List.mem_map.1 ht
  rfl
/-- The first bytes of a text. -/
def BL (s : ByteArray) (n : Nat) : List Int := (List.range n).map fun i : Nat => bt s (i : Int)
theorem BL_len (s : ByteArray) (n : Nat) : (BL s n).length = n := by simp [BL]
theorem BL_succ (s : ByteArray) (n : Nat) : BL s (n + 1) = BL s n ++ [bt s (n : Int)] := by simp [BL, List.range_succ]
theorem BL_rd (s : ByteArray) (n i : Nat) (h : i < n) : rd (BL s n) (i : Int) = bt s (i : Int) := by
  unfold rd BL
  rw [List.getD_eq_getElem?_getD, Int.toNat_natCast, List.getElem?_map, List.getElem?_range h]
  rfl
theorem cp_BL (s : ByteArray) : ∀ (m p d : Nat), 1 ≤ d → d ≤ p → p + m ≤ 1048576 → (∀ j : Nat, j < m → bt s ((p : Int) - d + j) = bt s ((p : Int) + j)) → cp m (BL s p) (d : Int) = BL s (p + m)
  | 0, p, d, _, _, _, _ => rfl
  | m + 1, p, d, h1, h2, h3, h => by
    have h0 := h 0 (by omega)
    rw [cp, BL_len, wrap_id (by omega) (by omega), show (p : Int) - (d : Int) = ((p - d : Nat) : Int) by omega, BL_rd s p (p - d) (by omega)]
    rw [show (p : Int) - (d : Int) + ((0 : Nat) : Int) = ((p - d : Nat) : Int) by omega, show (p : Int) + ((0 : Nat) : Int) = (p : Int) by omega] at h0
    rw [h0, ← BL_succ, cp_BL s m (p + 1) d h1 (by omega) (by omega) (fun j hj => ?_), show p + 1 + m = p + (m + 1) by omega]
    have := h (j + 1) (by omega)
    rw [show (p : Int) - (d : Int) + ((j + 1 : Nat) : Int) = ((p + 1 : Nat) : Int) - (d : Int) + (j : Int) by omega, show (p : Int) + ((j + 1 : Nat) : Int) = ((p + 1 : Nat) : Int) + (j : Int) by omega] at this
    exact this
theorem right_byte (b : Int) : portmanteauref07_Right.f b 0 0 = some true := by unfold portmanteauref07_Right.f; rw [if_pos rfl]; rfl
theorem right_copy (l d : Int) (h1 : 3 ≤ l) (h2 : l ≤ 258) (h3 : 1 ≤ d) (h4 : d ≤ 32768) : portmanteauref07_Right.f 0 l d = some true := by
  unfold portmanteauref07_Right.f
  rw [if_neg (by omega), if_pos rfl, if_neg (by omega), if_neg (by omega), if_pos (by omega), decide_eq_true h4]
theorem expand_runs (s : ByteArray) (hs : s.size ≤ 1000000) (L : List Tok) (hL : L.length ≤ 1000000) : ∀ (d : Nat) (k : Nat) (i : Int) (p : Nat), 0 ≤ i → i + d = L.length → 264 * d < k → Runs s (L.drop i.toNat) p s.size → p ≤ s.size →
    portmanteauref07_Expand.l0 k (BL s p) (L.map c28) L.length i = some (strOfNums (BL s s.size), 0) := by
  intro d
  induction d with
  | zero =>
    intro k i p h0 h1 hk hr hp
    obtain ⟨k, rfl⟩ : ∃ m, k = m + 1 := ⟨k - 1, by omega⟩
    rw [List.drop_eq_nil_of_le (by omega)] at hr
    have : p = s.size := hr
    subst this
    simp only [portmanteauref07_Expand.l0]
    rw [if_neg (by omega)]
  | succ d ih =>
    intro k i p h0 h1 hk hr hp
    obtain ⟨k, rfl⟩ : ∃ m, k = m + 263 := ⟨k - 263, by omega⟩
    rw [show k + 263 = (k + 262) + 1 by omega]
    simp only [portmanteauref07_Expand.l0, rd_map, List.length_map]
    have hi : i < (L.length : Int) := by omega
    have hin : i.toNat < L.length := by omega
    simp only [if_pos hi, if_pos h0]
    have hrd : rd_T25 L i = L[i.toNat] := by unfold rd_T25; rw [List.getD_eq_getElem?_getD, List.getElem?_eq_getElem hin]; rfl
    rw [List.drop_eq_getElem_cons hin] at hr
    rw [hrd]
    obtain ⟨t, ht⟩ : ∃ t, L[i.toNat] = t := ⟨_, rfl⟩
    rw [ht] at hr ⊢
    have hnx : (i + 1).toNat = i.toNat + 1 := by omega
    show (portmanteauref07_Right.f t.f0 t.f1 t.f2).bind _ = _
    rcases hr with ⟨e0, e1, e2, hp2, hr⟩ | ⟨e0, e1, hf, hr⟩
    · have hz' : (c28 t).f1 = 0 := e1
      have hz2 : (c28 t).f2 = 0 := e2
      have hz0 : (c28 t).f0 = bt s (p : Int) := e0
      rw [e1, e2, right_byte, Option.bind_some, if_pos rfl, hz2, if_neg (by omega), if_pos hz', hz0, hz']
      rw [show k + 262 = (k + 261) + 1 by omega, portmanteauref07_Expand.j1, BL_len, wrap_id (x := (p : Int) + 1) (by omega) (by omega)]
      rw [if_neg (show ¬ ((p : Int) + 1 > 1048576) by omega), if_pos rfl, if_pos (by omega), ← BL_succ]
      rw [show k + 261 = (k + 260) + 1 by omega, portmanteauref07_Expand.j2]
      rw [show k + 260 = (k + 259) + 1 by omega, portmanteauref07_Expand.l1]
      rw [if_neg (show ¬ ((0 : Int) < 0) by omega), wrap_id (x := i + 1) (by omega) (by omega)]
      exact ih _ _ _ (by omega) (by omega) (by omega) (by rw [hnx]; exact hr) (by omega)
    · obtain ⟨c1, c2, c3, c4⟩ := hf
      obtain ⟨b1, b2, b3, b4⟩ := c4 (by omega)
      have hz1 : (c28 t).f1 = t.f1 := rfl
      have hz2 : (c28 t).f2 = t.f2 := rfl
      have hz0 : (c28 t).f0 = 0 := e0
      rw [e0, right_copy t.f1 t.f2 e1 c2 b1 b2, Option.bind_some, if_pos rfl, hz1, hz2, BL_len, if_neg (by omega), if_neg (by omega), hz0]
      rw [show k + 262 = (k + 261) + 1 by omega, portmanteauref07_Expand.j1, BL_len, wrap_id (x := (p : Int) + t.f1) (by omega) (by omega)]
      rw [if_neg (show ¬ ((p : Int) + t.f1 > 1048576) by omega), if_neg (by omega)]
      rw [show k + 261 = (k + 260) + 1 by omega, portmanteauref07_Expand.j2]
      obtain ⟨m, hm2⟩ : ∃ m : Nat, t.f1 = m := ⟨t.f1.toNat, by omega⟩
      obtain ⟨dd, hd2⟩ : ∃ m : Nat, t.f2 = m := ⟨t.f2.toNat, by omega⟩
      rw [show k + 260 = (k + (259 - m)) + m + 1 by omega]
      rw [copy2 m _ (BL s p) _ _ i _ 0 _ _ (by omega) (by omega) (by omega) b1 (by rw [BL_len]; omega) (by rw [BL_len]; omega), wrap_id (x := i + 1) (by omega) (by omega)]
      rw [hd2, cp_BL s m p dd (by omega) (by omega) (by omega) (fun j hj => by have := b4 j (by omega); rwa [hd2] at this)]
      exact ih _ _ _ (by omega) (by omega) (by omega) (by rw [hnx]; rw [hm2, Int.toNat_natCast] at hr; exact hr) (by omega)
theorem BL_str (s : ByteArray) : strOfNums (BL s s.size) = s := by
  unfold strOfNums BL
  apply ByteArray.ext
  apply Array.ext'
  apply List.ext_getElem
  · simp
  · intro i h1 h2
    simp [bt]
    have h3 : i < s.size := by simpa using h2
    simp [h3, ByteArray.getElem_eq_getElem_data]
end Go.Proofs.Ytgpmhdefpbmhjaa.Fi
