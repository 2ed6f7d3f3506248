/- CursorWrites: the numbers that bytes are, and the bytes of numbers, are those of the reference; for every number, count and text. No condition beside the statement's own. -/
import Derived.Test.YtegdnkhpkealoaaNum
namespace Go.Proofs.Ytegdnkhpkealoaa.Pure
open Go Go.RowKit Go.Proofs.Ytegdnkhpkealoaa.P Go.Proofs.Ytegdnkhpkealoaa.B Go.Proofs.Ytegdnkhpkealoaa.Num Go.Proofs.YtegdnkhpkealoaaW.PrintWords Go.Proofs.YtegdnkhpkealoaaW.PrintLast

theorem j0_true (n : Nat) (hn : n < 2 ^ 64) (a1 : Int) : portmanteaulaw01_CursorWrites.j0 101 (n : Int) a1 false = some true := by
  simp only [portmanteaulaw01_CursorWrites.j0]
  have h1 : IntKind.u16.wrap (n : Int) = ((n % 65536 : Nat) : Int) := by rw [u16_mod]; omega
  have h2 : Int.tmod (n : Int) 65536 = ((n % 65536 : Nat) : Int) := by rw [Int.tmod_eq_emod_of_nonneg (by omega)]; omega
  have h3 : ((n : Int)) % 4294967296 = ((n % 4294967296 : Nat) : Int) := by omega
  have h4 : Int.tmod (n : Int) 4294967296 = ((n % 4294967296 : Nat) : Int) := by rw [Int.tmod_eq_emod_of_nonneg (by omega)]; omega
  rw [h1, h2, h3, h4, two_eq _ (by omega) _ (by omega), ref_of_eq _ (by omega) _ _ (by omega), four_eq _ (by omega) _ (by omega), ref_of_eq _ (by omega) _ _ (by omega), eight_eq _ (by omega) _ (by omega), ref_of_eq _ (by omega) _ _ (by omega),
    of_eq _ (by omega) _ _ (by omega), ref_of_eq _ (by omega) _ _ (by omega)]
  simp [ofI]

theorem CursorWrites : portmanteaulaw01_CursorWrites.Pure := by
  intro a0 a1 a2 h0 h1 h2
  obtain ⟨h3, h4⟩ := wf_u64 h0
  obtain ⟨n, rfl⟩ := Int.eq_ofNat_of_zero_le h3
  refine ⟨102, ?_⟩
  have hj := at_rounds (g := fun k => portmanteaulaw01_CursorWrites.j0 k (n : Int) a1 false) (fun k => portmanteaulaw01_CursorWrites.mono_l k _ _ _) (k := 101) (k' := 102) (by omega) (j0_true n (by omega) a1)
  unfold portmanteaulaw01_CursorWrites.f
  rw [awake_eq _ (by omega)]
  simp only [Option.bind_some, if_true]
  unfold cursor_Number.f
  by_cases h8 : (a2.size : Int) > 8
  · simp [if_pos h8, hj]
    omega
  · rw [if_neg h8, number_eq a2 (by omega) _ (by omega)]
    simp only [Option.bind_some]
    rw [if_neg h8, if_pos (by omega), ref_number_eq a2 (by omega) _ (by omega)]
    simp only [Option.bind_some]
    simpa using hj
end Go.Proofs.Ytegdnkhpkealoaa.Pure
