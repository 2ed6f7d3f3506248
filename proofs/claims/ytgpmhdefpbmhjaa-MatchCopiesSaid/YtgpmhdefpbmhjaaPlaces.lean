/- Places: the reference's list and the chains' are the same. Plain Lean. -/
import Derived.Test.YtgpmhdefpbmhjaaPlain
import Derived.Test.YtgpmhdefpbmhjaaChains
import Derived.Test.YtgpmhdefpbmhjaaMapR
namespace Go.Proofs.Ytgpmhdefpbmhjaa.D7
set_option linter.unusedVariables false
set_option linter.unusedSimpArgs false
open Go Go.RowKit Go.Proofs.Ytgpmhdefpbmhjaa.P Go.Proofs.Ytgpmhdefpbmhjaa.B Go.Proofs.Ytgpmhdefpbmhjaa.Ch Go.Proofs.Ytgpmhdefpbmhjaa.MapG Go.Proofs.YtgpmhdefpbmhjaaW.PrintWords Go.Proofs.YtgpmhdefpbmhjaaW.PrintLast Go.Proofs.YtgpmhdefpbmhjaaW.PrintMore

theorem chL_total (s : ByteArray) : ∀ n, total (chL s n) = n := by
  intro n
  induction n with
  | zero => rfl
  | succ n ih => rw [chL, total_put, ih]
theorem chL_get_succ (s : ByteArray) (n : Nat) (t : Tri) : getL (chL s (n + 1)) t = if tri s n = t then getL (chL s n) t ++ [(n : Int)] else getL (chL s n) t := by
  rw [chL, get_put]
  split
  · next h => rw [h]
  · rfl
theorem byte_eq (s : ByteArray) (i : Nat) (h : i < s.size) (a : UInt8) : (bt s (i : Int) = (a.toNat : Int)) ↔ s.data.toList.getD i 0 = a := by
  rw [tri_at s i h]
  constructor
  · intro e; exact UInt8.toNat_inj.1 (by omega)
  · intro e; rw [e]
theorem places_loop (s : ByteArray) (hs : s.size ≤ 1000) (t : Tri) : ∀ (d k i : Nat), i + d = s.size - 2 → i ≤ s.size - 2 → d < k →
    portmanteauref07_Places.l0 k s (t.1.toNat : Int) (t.2.1.toNat : Int) (t.2.2.toNat : Int) (getL (chL s i) t) (i : Int) = some (getL (chL s (s.size - 2)) t) := by
  intro d
  induction d with
  | zero =>
    intro k i h0 h1 hk
    obtain ⟨k, rfl⟩ : ∃ m, k = m + 1 := ⟨k - 1, by omega⟩
    have e : i = s.size - 2 := by omega
    simp only [portmanteauref07_Places.l0]
    rw [wrap_id (x := (i : Int) + 2) (by omega) (by omega), if_neg (by omega), e]
  | succ d ih =>
    intro k i h0 h1 hk
    obtain ⟨k, rfl⟩ : ∃ m, k = m + 1 := ⟨k - 1, by omega⟩
    have hl := get_len s i t
    have h2 := ih k (i + 1) (by omega) (by omega) (by omega)
    rw [chL_get_succ] at h2
    have w1 : wrap64 ((i : Int) + 1) = ((i + 1 : Nat) : Int) := wrap_id (by omega) (by omega)
    have w2 : wrap64 ((i : Int) + 2) = ((i + 2 : Nat) : Int) := wrap_id (by omega) (by omega)
    have c1 : ((i + 2 : Nat) : Int) < (s.size : Int) := by omega
    have c2 : (0 : Int) ≤ (i : Int) := by omega
    have c3 : (i : Int) < (s.size : Int) := by omega
    have c4 : (0 : Int) ≤ ((i + 1 : Nat) : Int) := by omega
    have c5 : ((i + 1 : Nat) : Int) < (s.size : Int) := by omega
    have c6 : (0 : Int) ≤ ((i + 2 : Nat) : Int) := by omega
    have c7 : (getL (chL s i) t).length < 17592186044416 := by omega
    have b0 := byte_eq s i (by omega) t.1
    have b1 := byte_eq s (i + 1) (by omega) t.2.1
    have b2 := byte_eq s (i + 2) (by omega) t.2.2
    have ht : tri s i = t ↔ (s.data.toList.getD i 0 = t.1 ∧ s.data.toList.getD (i + 1) 0 = t.2.1 ∧ s.data.toList.getD (i + 2) 0 = t.2.2) := by
      unfold tri
      rw [Prod.ext_iff, Prod.ext_iff]
    simp only [portmanteauref07_Places.l0, w1, w2, if_pos c1, if_pos c2, if_pos c3, if_pos c4, if_pos c5, if_pos c6, if_pos c7, b0, b1, b2]
    rw [← h2]
    by_cases g0 : s.data.toList.getD i 0 = t.1
    · by_cases g1 : s.data.toList.getD (i + 1) 0 = t.2.1
      · by_cases g2 : s.data.toList.getD (i + 2) 0 = t.2.2
        · rw [if_pos g0, if_pos g1, if_pos g2, if_pos (ht.2 ⟨g0, g1, g2⟩)]
        · rw [if_pos g0, if_pos g1, if_neg g2, if_neg (fun h => g2 (ht.1 h).2.2)]
      · rw [if_pos g0, if_neg g1, if_neg (fun h => g1 (ht.1 h).2.1)]
    · rw [if_neg g0, if_neg (fun h => g0 (ht.1 h).1)]
theorem places_same (s : ByteArray) (hs : s.size ≤ 1000) (t : Tri) : ∃ k, portmanteauref07_Places.f k s (t.1.toNat : Int) (t.2.1.toNat : Int) (t.2.2.toNat : Int) = some (getL (chL s (places s)) t) := by
  refine ⟨s.size + 1, ?_⟩
  have hp : places s = s.size - 2 := by unfold places; rw [if_pos (by omega)]
  rw [hp]
  exact places_loop s hs t (s.size - 2) _ 0 (by omega) (by omega) (by omega)
theorem byte_of {x : Int} (h : (Lit.int .u8 x).wf = true) : ∃ a : UInt8, x = (a.toNat : Int) := by
  have := wf_u8 h
  refine ⟨UInt8.ofNat x.toNat, ?_⟩
  simp
  omega
end Go.Proofs.Ytgpmhdefpbmhjaa.D7
