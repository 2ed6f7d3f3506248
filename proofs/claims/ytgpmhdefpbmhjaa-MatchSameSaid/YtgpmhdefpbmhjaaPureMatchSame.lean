/- MatchSame: what is found hangs on the text and the level alone: the found tokens are a function of both. -/
import Derived.Test.YtgpmhdefpbmhjaaRuns
import Derived.Test.YtgpmhdefpbmhjaaPx7
namespace Go.Proofs.Ytgpmhdefpbmhjaa.Pure
set_option linter.unusedVariables false
set_option linter.unusedSimpArgs false
open Go Go.RowKit Go.Proofs.Ytgpmhdefpbmhjaa.P Go.Proofs.Ytgpmhdefpbmhjaa.B Go.Proofs.Ytgpmhdefpbmhjaa.Fi Go.Proofs.YtgpmhdefpbmhjaaW.PrintWords Go.Proofs.YtgpmhdefpbmhjaaW.PrintLast
theorem same_loop (L : List Tok) (hL : L.length ≤ 1000000) : ∀ (d k : Nat) (i : Int), 0 ≤ i → i + d = L.length → d < k → portmanteaulaw07_MatchSame.l0 k L L L.length i = some true := by
  intro d
  induction d with
  | zero =>
    intro k i h0 h1 hk
    obtain ⟨k, rfl⟩ : ∃ m, k = m + 1 := ⟨k - 1, by omega⟩
    simp only [portmanteaulaw07_MatchSame.l0]
    rw [if_neg (by omega)]
  | succ d ih =>
    intro k i h0 h1 hk
    obtain ⟨k, rfl⟩ : ∃ m, k = m + 1 := ⟨k - 1, by omega⟩
    simp only [portmanteaulaw07_MatchSame.l0]
    rw [if_pos (by omega), if_pos h0, if_pos (by omega), if_pos (by omega), if_neg (by simp), wrap_id (by omega) (by omega)]
    exact ih k (i + 1) (by omega) (by omega) (by omega)
theorem len_le (s : ByteArray) (l : Int) : (findL s l).1.length ≤ 1000000 ∨ 1000000 < s.size := by
  by_cases h : l < 0 ∨ 9 < l
  · left; unfold findL; rw [if_pos h]; simp
  · by_cases hs : 1000000 < s.size
    · exact .inr hs
    · left
      obtain ⟨hr, _⟩ := findL_runs s l (by omega) (by omega) (by omega)
      obtain ⟨h1, h2⟩ := runs_le s _ 0 _ hr (Nat.zero_le _)
      omega
theorem j0_same (k : Nat) (a b : ByteArray) (l : Int) : portmanteaulaw07_MatchSame.j0 (k + 1) a b l false = ((match_Find.f a l).bind fun x => ((match_Find.f b l).bind fun y => ((match_Find.f a l).bind fun z => (if x.2 = z.2 then (portmanteaulaw07_MatchSame.j1 k x.1 z.1 ((x.1.length : Int) != (z.1.length : Int))) else (portmanteaulaw07_MatchSame.j1 k x.1 z.1 true))))) := rfl
theorem MatchSame : portmanteaulaw07_MatchSame.Pure := by
  intro s t l hs ht hl
  refine ⟨1000010, ?_⟩
  unfold portmanteaulaw07_MatchSame.f portmanteaulaw07_awake.f
  rw [Option.bind_some, if_pos rfl]
  by_cases h1 : (s.size : Int) > 3000
  · rw [if_pos h1, show 1000010 = 1000009 + 1 from rfl, portmanteaulaw07_MatchSame.j0, if_pos rfl]
  rw [if_neg h1]
  by_cases h2 : (t.size : Int) > 3000
  · rw [decide_eq_true h2, show 1000010 = 1000009 + 1 from rfl, portmanteaulaw07_MatchSame.j0, if_pos rfl]
  rw [decide_eq_false h2, show portmanteaulaw07_MatchSame.j0 1000010 s t l false = _ from j0_same 1000009 s t l]
  unfold match_Find.f
  rw [Option.bind_some, Option.bind_some, Option.bind_some, if_pos rfl, bne_self_eq_false]
  rw [show 1000009 = 1000008 + 1 from rfl, portmanteaulaw07_MatchSame.j1, if_neg (by simp)]
  have hlen : (findL s l).1.length ≤ 1000000 := by
    rcases len_le s l with h | h
    · exact h
    · omega
  exact same_loop _ hlen (findL s l).1.length _ 0 (by omega) (by omega) (by omega)
end Go.Proofs.Ytgpmhdefpbmhjaa.Pure
