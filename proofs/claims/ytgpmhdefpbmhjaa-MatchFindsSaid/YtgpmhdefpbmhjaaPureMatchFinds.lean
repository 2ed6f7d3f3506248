/- MatchFinds: the tokens of any text, of any level, expand to it; of level 0 they are bytes. -/
import Derived.Test.YtgpmhdefpbmhjaaRuns
import Derived.Test.YtgpmhdefpbmhjaaPx11
namespace Go.Proofs.Ytgpmhdefpbmhjaa.Pure
set_option linter.unusedVariables false
set_option linter.unusedSimpArgs false
open Go Go.RowKit Go.Proofs.Ytgpmhdefpbmhjaa.P Go.Proofs.Ytgpmhdefpbmhjaa.B Go.Proofs.Ytgpmhdefpbmhjaa.D7 Go.Proofs.Ytgpmhdefpbmhjaa.Fi Go.Proofs.YtgpmhdefpbmhjaaW.PrintWords Go.Proofs.YtgpmhdefpbmhjaaW.PrintLast
theorem finds_loop (l : Int) (L : List Tok) (hL : L.length ≤ 1000000) (h : l = 0 → ∀ t ∈ L, t.f1 = 0) : ∀ (d k : Nat) (i : Int), 0 ≤ i → i + d = L.length → d < k → portmanteaulaw07_MatchFinds.l0 k l L L.length i = some true := by
  intro d
  induction d with
  | zero =>
    intro k i h0 h1 hk
    obtain ⟨k, rfl⟩ : ∃ m, k = m + 1 := ⟨k - 1, by omega⟩
    simp only [portmanteaulaw07_MatchFinds.l0]
    rw [if_neg (by omega)]
  | succ d ih =>
    intro k i h0 h1 hk
    obtain ⟨k, rfl⟩ : ∃ m, k = m + 1 := ⟨k - 1, by omega⟩
    have hin : i.toNat < L.length := by omega
    have hrd : rd_T25 L i = L[i.toNat] := by unfold rd_T25; rw [List.getD_eq_getElem?_getD, List.getElem?_eq_getElem hin]; rfl
    simp only [portmanteaulaw07_MatchFinds.l0]
    rw [if_pos (by omega), if_pos h0, if_pos (by omega), wrap_id (by omega) (by omega), ih k (i + 1) (by omega) (by omega) (by omega)]
    by_cases hl : l = 0
    · rw [if_pos hl, hrd, if_pos (h hl _ (List.getElem_mem hin))]
    · rw [if_neg hl]
theorem j0_bad (k : Nat) (s : ByteArray) (l : Int) (L : List Tok) (e : Int) : portmanteaulaw07_MatchFinds.j0 (k + 1) s l L e true = if e = 2 then (some ((L.length : Int) == 0)) else (some false) := rfl
theorem j0_good (k : Nat) (s : ByteArray) (l : Int) (L : List Tok) (e : Int) : portmanteaulaw07_MatchFinds.j0 (k + 1) s l L e false = ((portmanteaulaw07_to.f k L).bind fun t => ((portmanteauref07_Expand.f k t).bind fun b => (if e = 0 then (if b.2 = 0 then (if b.1.toList = s.toList then (portmanteaulaw07_MatchFinds.j1 k l L (decide ((L.length : Int) > (s.size : Int)))) else (portmanteaulaw07_MatchFinds.j1 k l L true)) else (portmanteaulaw07_MatchFinds.j1 k l L true)) else (portmanteaulaw07_MatchFinds.j1 k l L true)))) := rfl
theorem to_many (L : List Tok) (hL : L.length ≤ 1000000) (k : Nat) (hk : L.length < k) : portmanteaulaw07_to.f k L = some (L.map c28) := to_loop L hL L.length k 0 (by omega) hk
theorem MatchFinds : portmanteaulaw07_MatchFinds.Pure := by
  intro s l hs hl
  refine ⟨3000010, ?_⟩
  unfold portmanteaulaw07_MatchFinds.f portmanteaulaw07_awake.f
  rw [Option.bind_some, if_pos rfl]
  by_cases h1 : (s.size : Int) > 5000
  · rw [if_pos h1]
  rw [if_neg h1]
  unfold match_Find.f
  rw [Option.bind_some]
  by_cases hlo : l < 0
  · rw [if_pos hlo, show portmanteaulaw07_MatchFinds.j0 3000010 s l _ _ true = _ from j0_bad 3000009 s l _ _]
    unfold findL
    rw [if_pos (Or.inl hlo)]
    rfl
  rw [if_neg hlo]
  by_cases hhi : l > 9
  · rw [decide_eq_true hhi, show portmanteaulaw07_MatchFinds.j0 3000010 s l _ _ true = _ from j0_bad 3000009 s l _ _]
    unfold findL
    rw [if_pos (Or.inr hhi)]
    rfl
  rw [decide_eq_false hhi]
  obtain ⟨hr, he⟩ := findL_runs s l (by omega) (by omega) (by omega)
  have h0 : l = 0 → ∀ t ∈ (findL s l).1, t.f1 = 0 := by
    intro e
    unfold findL
    rw [if_neg (by omega), if_neg (by omega), if_pos e]
    exact bytes_flat s
  obtain ⟨hx, hlen⟩ := runs_le s _ 0 _ hr (Nat.zero_le _)
  rw [he]
  obtain ⟨L, hL⟩ : ∃ L, (findL s l).1 = L := ⟨_, rfl⟩
  rw [hL] at hr h0 hlen ⊢
  have hE : portmanteauref07_Expand.f 3000009 (L.map c28) = some (s, 0) := by
    have h := expand_runs s (by omega) L (by omega) L.length 3000009 0 0 (by omega) (by omega) (by omega) hr (Nat.zero_le _)
    unfold portmanteauref07_Expand.f
    rw [List.length_map]
    rw [BL_str] at h
    exact h
  rw [show portmanteaulaw07_MatchFinds.j0 3000010 s l L 0 false = _ from j0_good 3000009 s l L 0, to_many L (by omega) _ (by omega), Option.bind_some, hE, Option.bind_some, if_pos rfl, if_pos rfl, if_pos rfl, decide_eq_false (by omega)]
  rw [show 3000009 = 3000008 + 1 from rfl, portmanteaulaw07_MatchFinds.j1, if_neg (by simp)]
  exact finds_loop l L (by omega) h0 L.length _ 0 (by omega) (by omega) (by omega)
end Go.Proofs.Ytgpmhdefpbmhjaa.Pure
