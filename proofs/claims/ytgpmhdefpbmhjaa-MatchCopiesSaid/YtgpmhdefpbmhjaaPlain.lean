/- Expanding: the printed function and the reference's come to the same, and awake. Plain Lean. -/
import Derived.Test.YtgpmhdefpbmhjaaBytes
import Derived.Test.YtgpmhdefpbmhjaaPx10
import Derived.Test.YtgpmhdefpbmhjaaPx2
import Derived.Test.YtgpmhdefpbmhjaaPx3
import Derived.Test.YtgpmhdefpbmhjaaPx5
import Derived.Test.YtgpmhdefpbmhjaaPx8
import Derived.Test.YtgpmhdefpbmhjaaPx9
namespace Go.Proofs.Ytgpmhdefpbmhjaa.D7
set_option linter.unusedVariables false
set_option linter.unusedSimpArgs false
open Go Go.RowKit Go.Proofs.Ytgpmhdefpbmhjaa.P Go.Proofs.Ytgpmhdefpbmhjaa.B Go.Proofs.YtgpmhdefpbmhjaaW.PrintWords Go.Proofs.YtgpmhdefpbmhjaaW.PrintLast Go.Proofs.YtgpmhdefpbmhjaaW.PrintMore

theorem right_same (a b c : Int) : match_Right.f a b c = portmanteauref07_Right.f a b c := by
  unfold match_Right.f portmanteauref07_Right.f
  repeat' split
  all_goals first | rfl | omega
theorem right_some (a b c : Int) : ∃ r, match_Right.f a b c = some r ∧ (r = true → b ≤ 258 ∧ 0 ≤ b ∧ (b ≠ 0 → 1 ≤ c)) := by
  unfold match_Right.f
  repeat' split
  all_goals exact ⟨_, rfl, fun h => by simp at h <;> omega⟩
def c28 (t : S25) : S28 := ⟨t.f0, t.f1, t.f2⟩
/-- So many bytes more, each from so far ahead. -/
def cp : Nat → List Int → Int → List Int
  | 0, out, _ => out
  | m + 1, out, d => cp m (out ++ [rd out (wrap64 ((out.length : Int) - d))]) d
theorem cp_len (m : Nat) (out : List Int) (d : Int) : (cp m out d).length = out.length + m := by
  induction m generalizing out with
  | zero => rfl
  | succ m ih => rw [cp, ih, List.length_append]; simp; omega
theorem copy1 (m : Nat) : ∀ (k : Nat) (out : List Int) (L : List S25) (n i len q b c d : Int), q + m = len → 0 ≤ q → len ≤ 1000000 → 1 ≤ d → d ≤ out.length → out.length + m ≤ 1048576 →
    match_Expand.l1 (k + m + 1) out L n i len q b c d = match_Expand.l0 k (cp m out d) L n (wrap64 (i + 1)) := by
  induction m with
  | zero => intro k out L n i len q b c d h0 h1 h2 h3 h4 h5; simp only [match_Expand.l1]; rw [if_neg (by omega)]; rfl
  | succ m ih =>
    intro k out L n i len q b c d h0 h1 h2 h3 h4 h5
    rw [show k + (m + 1) + 1 = (k + m + 1) + 1 by omega, match_Expand.l1]
    have hw : wrap64 ((out.length : Int) - d) = out.length - d := wrap_id (by omega) (by omega)
    rw [if_pos (by omega), hw, if_pos (by omega), if_pos (by omega), if_pos (by omega), wrap_id (x := q + 1) (by omega) (by omega), ih k _ L n i len (q + 1) b c d (by omega) (by omega) h2 h3 (by rw [List.length_append]; simp; omega) (by rw [List.length_append]; simp; omega), cp, hw]
theorem copy2 (m : Nat) : ∀ (k : Nat) (out : List Int) (L : List S28) (n i len q b d : Int), q + m = len → 0 ≤ q → len ≤ 1000000 → 1 ≤ d → d ≤ out.length → out.length + m ≤ 1048576 →
    portmanteauref07_Expand.l1 (k + m + 1) out q L n i b len d = portmanteauref07_Expand.l0 k (cp m out d) L n (wrap64 (i + 1)) := by
  induction m with
  | zero => intro k out L n i len q b d h0 h1 h2 h3 h4 h5; simp only [portmanteauref07_Expand.l1]; rw [if_neg (by omega)]; rfl
  | succ m ih =>
    intro k out L n i len q b d h0 h1 h2 h3 h4 h5
    rw [show k + (m + 1) + 1 = (k + m + 1) + 1 by omega, portmanteauref07_Expand.l1]
    have hw : wrap64 ((out.length : Int) - d) = out.length - d := wrap_id (by omega) (by omega)
    rw [if_pos (by omega), hw, if_pos (by omega), if_pos (by omega), if_pos (by omega), wrap_id (x := q + 1) (by omega) (by omega), ih k _ L n i len (q + 1) b d (by omega) (by omega) h2 h3 (by rw [List.length_append]; simp; omega) (by rw [List.length_append]; simp; omega), cp, hw]
theorem rd_map (L : List S25) (i : Int) : rd_T28 (L.map c28) i = c28 (rd_T25 L i) := by
  unfold rd_T28 rd_T25
  rw [List.getD_eq_getElem?_getD, List.getElem?_map, List.getD_eq_getElem?_getD]
  cases L[i.toNat]? <;> rfl
theorem expand_loop (L : List S25) (hL : L.length ≤ 1000000) : ∀ (d : Nat) (k k2 : Nat) (out : List Int) (i : Int), 0 ≤ i → i + d = L.length → 264 * d < k → 264 * d < k2 → out.length ≤ 1048576 →
    ∃ r, match_Expand.l0 k out L L.length i = some r ∧ portmanteauref07_Expand.l0 k2 out (L.map c28) L.length i = some r := by
  intro d
  induction d with
  | zero =>
    intro k k2 out i h0 h1 hk hk2 ho
    obtain ⟨k, rfl⟩ : ∃ m, k = m + 1 := ⟨k - 1, by omega⟩
    obtain ⟨k2, rfl⟩ : ∃ m, k2 = m + 1 := ⟨k2 - 1, by omega⟩
    simp only [match_Expand.l0, portmanteauref07_Expand.l0]
    rw [if_neg (by omega), if_neg (by omega)]
    exact ⟨_, rfl, rfl⟩
  | succ d ih =>
    intro k k2 out i h0 h1 hk hk2 ho
    obtain ⟨k, rfl⟩ : ∃ m, k = m + 262 := ⟨k - 262, by omega⟩
    obtain ⟨k2, rfl⟩ : ∃ m, k2 = m + 263 := ⟨k2 - 263, by omega⟩
    rw [show k + 262 = (k + 261) + 1 by omega, show k2 + 263 = (k2 + 262) + 1 by omega]
    simp only [match_Expand.l0, portmanteauref07_Expand.l0, rd_map, List.length_map]
    have hi : i < (L.length : Int) := by omega
    simp only [if_pos hi, if_pos h0]
    generalize rd_T25 L i = t
    obtain ⟨r, hr, hb⟩ := right_some t.f0 t.f1 t.f2
    rw [hr, show portmanteauref07_Right.f (c28 t).f0 (c28 t).f1 (c28 t).f2 = some r from by rw [← hr, right_same]; rfl]
    simp only [Option.bind_some]
    cases r with
    | false => exact ⟨_, rfl, rfl⟩
    | true =>
      obtain ⟨hb1, hb2, hb3⟩ := hb rfl
      simp only [if_true]
      show ∃ r, (if t.f2 > _ then _ else _) = some r ∧ (if t.f2 > _ then _ else if t.f1 = 0 then _ else _) = some r
      by_cases hd : t.f2 > (out.length : Int)
      · rw [if_pos hd, if_pos hd]; exact ⟨_, rfl, rfl⟩
      rw [if_neg hd, if_neg hd]
      have hw : wrap64 (1048576 - (out.length : Int)) = 1048576 - out.length := wrap_id (by omega) (by omega)
      rw [hw]
      by_cases hz : t.f1 = 0
      · have hz' : (c28 t).f1 = 0 := hz
        rw [if_pos hz, if_pos hz]
        rw [show k2 + 262 = (k2 + 261) + 1 by omega, portmanteauref07_Expand.j1, wrap_id (x := (out.length : Int) + 1) (by omega) (by omega), show mx t.f1 1 = 1 from by simp [mx, hz]]
        by_cases hm : (1 : Int) > 1048576 - out.length
        · rw [if_pos hm, if_pos (show (out.length : Int) + 1 > 1048576 by omega)]; exact ⟨_, rfl, rfl⟩
        have ho2 : out.length < 140737488355328 := by omega
        rw [if_neg hm, if_neg (show ¬ ((out.length : Int) + 1 > 1048576) by omega), if_pos ho2, if_pos hz', if_pos ho2]
        rw [show k + 261 = (k + 260) + 1 by omega, show k2 + 261 = (k2 + 260) + 1 by omega, match_Expand.j1, portmanteauref07_Expand.j2]
        rw [show k + 260 = (k + 259) + 1 by omega, show k2 + 260 = (k2 + 259) + 1 by omega, match_Expand.l1, portmanteauref07_Expand.l1]
        rw [if_neg (show ¬ ((0 : Int) < t.f1) by omega), if_neg (show ¬ ((0 : Int) < (c28 t).f1) by omega), wrap_id (x := i + 1) (by omega) (by omega)]
        exact ih _ _ _ _ (by omega) (by omega) (by omega) (by omega) (by rw [List.length_append]; simp; omega)
      · have hz' : ¬ (c28 t).f1 = 0 := hz
        have h3 := hb3 hz
        have ht : (c28 t).f1 = t.f1 := rfl
        rw [if_neg hz, if_neg hz]
        rw [show k2 + 262 = (k2 + 261) + 1 by omega, portmanteauref07_Expand.j1, ht, wrap_id (x := (out.length : Int) + t.f1) (by omega) (by omega), show mx t.f1 1 = t.f1 from by unfold mx; split <;> omega]
        by_cases hm : t.f1 > 1048576 - out.length
        · rw [if_pos hm, if_pos (show (out.length : Int) + t.f1 > 1048576 by omega)]; exact ⟨_, rfl, rfl⟩
        rw [if_neg hm, if_neg (show ¬ ((out.length : Int) + t.f1 > 1048576) by omega), if_neg hz]
        rw [show k + 261 = (k + 260) + 1 by omega, show k2 + 261 = (k2 + 260) + 1 by omega, match_Expand.j1, portmanteauref07_Expand.j2]
        obtain ⟨m, hm2⟩ : ∃ m : Nat, t.f1 = m := ⟨t.f1.toNat, by omega⟩
        rw [show k + 260 = (k + (259 - m)) + m + 1 by omega, show k2 + 260 = (k2 + (259 - m)) + m + 1 by omega]
        rw [copy1 m _ out L _ i _ 0 _ _ _ (by omega) (by omega) (by omega) h3 (by omega) (by omega)]
        rw [show (c28 t).f2 = t.f2 from rfl, copy2 m _ out _ _ i _ 0 _ _ (by omega) (by omega) (by omega) h3 (by omega) (by omega), wrap_id (x := i + 1) (by omega) (by omega)]
        exact ih _ _ _ _ (by omega) (by omega) (by omega) (by omega) (by rw [cp_len]; omega)
theorem expand_same (L : List S25) (hL : L.length ≤ 1000000) : ∃ k s e, match_Expand.f k L = some (s, e) ∧ portmanteauref07_Expand.f k (L.map c28) = some (s, e) := by
  obtain ⟨⟨s, e⟩, h1, h2⟩ := expand_loop L hL L.length (264 * L.length + 1) (264 * L.length + 1) [] 0 (by omega) (by omega) (by omega) (by omega) (by simp)
  refine ⟨264 * L.length + 1, s, e, h1, ?_⟩
  unfold portmanteauref07_Expand.f
  rw [List.length_map]
  exact h2
theorem to_loop (L : List S25) (hL : L.length ≤ 1000000) : ∀ (d : Nat) (k : Nat) (i : Nat), i + d = L.length → d < k → portmanteaulaw07_to.l0 k ((L.take i).map c28) L L.length i = some (L.map c28) := by
  intro d
  induction d with
  | zero =>
    intro k i h hk
    obtain ⟨k, rfl⟩ : ∃ m, k = m + 1 := ⟨k - 1, by omega⟩
    simp only [portmanteaulaw07_to.l0]
    rw [if_neg (by omega), List.take_of_length_le (by omega)]
  | succ d ih =>
    intro k i h hk
    obtain ⟨k, rfl⟩ : ∃ m, k = m + 1 := ⟨k - 1, by omega⟩
    simp only [portmanteaulaw07_to.l0]
    rw [if_pos (by omega), if_pos (by omega), if_pos (by omega), if_pos (by rw [List.length_map, List.length_take]; omega), wrap_id (by omega) (by omega)]
    have hg : rd_T25 L (i : Int) = L[i] := by unfold rd_T25; rw [List.getD_eq_getElem?_getD, Int.toNat_natCast, List.getElem?_eq_getElem (by omega)]; rfl
    have h2 := ih k (i + 1) (by omega) (by omega)
    rw [List.take_succ_eq_append_getElem (by omega), List.map_append] at h2
    rw [hg]
    exact h2
theorem to_some (L : List S25) (hL : L.length ≤ 1000000) : ∃ k, portmanteaulaw07_to.f k L = some (L.map c28) := ⟨L.length + 1, to_loop L hL L.length _ 0 (by omega) (by omega)⟩
def awk : List S25 := [⟨97, 0, 0⟩, ⟨0, 4, 1⟩]
theorem awake_expand : match_Expand.f 40 awk = some ((⟨#[97, 97, 97, 97, 97]⟩ : ByteArray), 0) := by decide +kernel
end Go.Proofs.Ytgpmhdefpbmhjaa.D7
