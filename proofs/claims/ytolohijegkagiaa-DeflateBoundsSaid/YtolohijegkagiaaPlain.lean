/- Bounds and tokens' bytes: what the printed functions come to. Plain Lean. -/
import Derived.Test.YtolohijegkagiaaBytes
import Derived.Test.YtolohijegkagiaaPx1
import Derived.Test.YtolohijegkagiaaPx2
import Derived.Test.YtolohijegkagiaaPx3
import Derived.Test.YtolohijegkagiaaPx4
namespace Go.Proofs.Ytolohijegkagiaa.D9
set_option linter.unusedVariables false
set_option linter.unusedSimpArgs false
open Go Go.RowKit Go.Proofs.Ytolohijegkagiaa.P Go.Proofs.Ytolohijegkagiaa.B Go.Proofs.YtolohijegkagiaaW.PrintWords Go.Proofs.YtolohijegkagiaaW.PrintLast Go.Proofs.YtolohijegkagiaaW.PrintMore

theorem right_same (a b c : Int) : match_Right.f a b c = portmanteauref07_Right.f a b c := by
  unfold match_Right.f portmanteauref07_Right.f
  repeat' split
  all_goals first | rfl | omega
/-- How many bytes a token is. -/
def tb (t : S25) : Int := (deflate_bytes.f t.f0 t.f1 t.f2).getD 1
theorem right_some (a b c : Int) : ∃ r, match_Right.f a b c = some r ∧ (r = true → b ≤ 258 ∧ 0 ≤ b) := by
  unfold match_Right.f
  repeat' split
  all_goals exact ⟨_, rfl, fun h => by simp at h <;> omega⟩
theorem tb_eq (t : S25) : deflate_bytes.f t.f0 t.f1 t.f2 = some (tb t) ∧ portmanteauref09_Bytes.f t.f0 t.f1 t.f2 = some (tb t) ∧ 1 ≤ tb t ∧ tb t ≤ 258 := by
  obtain ⟨r, hr, hb⟩ := right_some t.f0 t.f1 t.f2
  have hd : deflate_bytes.f t.f0 t.f1 t.f2 = some (if r = true then mx t.f1 1 else 1) := by
    unfold deflate_bytes.f
    rw [hr]
    simp only [Option.bind_some]
    split <;> rfl
  have ht : tb t = if r = true then mx t.f1 1 else 1 := by unfold tb; rw [hd]; rfl
  refine ⟨by rw [hd, ht], ?_, ?_⟩
  · unfold portmanteauref09_Bytes.f
    rw [← right_same, hr, ht]
    simp only [Option.bind_some]
    cases r with
    | false => rfl
    | true =>
      have := hb rfl
      by_cases h0 : t.f1 = 0
      · simp [h0, mx]
      · simp [h0, mx]; omega
  · rw [ht]
    cases r with
    | false => simp
    | true => have := hb rfl; simp [mx]; split <;> omega
def sumb (l : List S25) : Int := (l.map tb).sum
theorem sumb_nil : sumb [] = 0 := rfl
theorem sumb_snoc (l : List S25) (t : S25) : sumb (l ++ [t]) = sumb l + tb t := by simp [sumb]
theorem sumb_append (a b : List S25) : sumb (a ++ b) = sumb a + sumb b := by
  induction a with
  | nil => simp [sumb]
  | cons t a ih => simp only [sumb, List.cons_append, List.map_cons, List.sum_cons] at ih ⊢; rw [ih]; omega
theorem sumb_nonneg (l : List S25) : 0 ≤ sumb l := by
  induction l with
  | nil => simp [sumb]
  | cons t l ih => have := (tb_eq t).2.2.1; simp only [sumb, List.map_cons, List.sum_cons] at ih ⊢; omega

theorem bound_loop : ∀ (d k : Nat) (n x : Int), n ≤ 1048576 → -40000 ≤ n → (n + 32767) / 32768 ≤ d → d < k → 0 ≤ x → x + 5 * (d : Int) ≤ 2000000 →
    portmanteauref09_Bound.l0 k n x = some (x + 5 * (if n > 0 then (n + 32767) / 32768 else 0)) := by
  intro d
  induction d with
  | zero =>
    intro k n x h1 h2 h3 hk hx hx2
    obtain ⟨k, rfl⟩ : ∃ m, k = m + 1 := ⟨k - 1, by omega⟩
    simp only [portmanteauref09_Bound.l0]
    rw [if_neg (by omega), if_neg (by omega)]
    simp
  | succ d ih =>
    intro k n x h1 h2 h3 hk hx hx2
    obtain ⟨k, rfl⟩ : ∃ m, k = m + 1 := ⟨k - 1, by omega⟩
    simp only [portmanteauref09_Bound.l0]
    by_cases hn : n > 0
    · rw [if_pos hn, if_pos hn, wrap_id (by omega) (by omega), wrap_id (by omega) (by omega)]
      rw [ih k (n - 32768) (x + 5) (by omega) (by omega) (by omega) (by omega) (by omega) (by omega)]
      congr 1
      split <;> omega
    · rw [if_neg hn, if_neg hn]; simp
theorem bound_eq (n : Int) (h0 : -9223372036854775808 ≤ n) (h1 : n ≤ 9223372036854775807) : ∃ r, deflate_Bound.f n = some r ∧ portmanteauref09_Bound.f 100 n = some r := by
  refine ⟨_, rfl, ?_⟩
  have key : ∀ m : Int, 0 ≤ m → m ≤ 1048576 → portmanteauref09_Bound.j1 99 m = some (m + 5 * ((m + 32768 - 1) / 32768) + 5) := by
    intro m g0 g1
    simp only [portmanteauref09_Bound.j1]
    rw [wrap_id (by omega) (by omega), bound_loop 33 98 m (m + 5) (by omega) (by omega) (by omega) (by omega) (by omega) (by omega)]
    congr 1
    split <;> omega
  unfold portmanteauref09_Bound.f
  have hm : mn (mx n 0) 1048576 = if n < 0 then 0 else if n > 1048576 then 1048576 else n := by
    unfold mn mx
    repeat' split
    all_goals omega
  rw [hm]
  by_cases hn : n < 0
  · rw [if_pos hn, if_pos hn]
    simp only [portmanteauref09_Bound.j0]
    rw [if_neg (by omega), key 0 (by omega) (by omega)]
  · rw [if_neg hn, if_neg hn]
    simp only [portmanteauref09_Bound.j0]
    by_cases hn2 : n > 1048576
    · rw [if_pos hn2, if_pos hn2, key _ (by omega) (by omega)]
    · rw [if_neg hn2, if_neg hn2, key _ (by omega) (by omega)]
theorem awake_eq : portmanteaulaw09_awake.f = some true := by decide +kernel
end Go.Proofs.Ytolohijegkagiaa.D9
