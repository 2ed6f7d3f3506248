/- Plain: what Sign answers of a whole code. -/
import Derived.Test.YtlfcepdaicngjaaSign4
namespace Go.Proofs.Ytlfcepdaicngjaa.Pk
set_option linter.unusedVariables false
set_option linter.unusedSimpArgs false
open Go Go.RowKit Go.Proofs.Ytlfcepdaicngjaa.P Go.Proofs.Ytlfcepdaicngjaa.MapV Go.Proofs.Ytlfcepdaicngjaa.B Go.Proofs.Ytlfcepdaicngjaa.Bn Go.Proofs.Ytlfcepdaicngjaa.Rd Go.Proofs.YtlfcepdaicngjaaW.PrintWords Go.Proofs.YtlfcepdaicngjaaW.PrintLast Go.Proofs.YtlfcepdaicngjaaW.PrintMore
theorem whole_sign (ls ws : List Int) (s : ByteArray) (a : Nat) (x er : Int) (a' : Nat) (hk : CodeOk ls ws) (hw : fillN (nat ls) = 32768) (ha : a ≤ 8 * s.size) (h : SignR ls ws s a x er a') :
    (er = 0 ∧ 0 ≤ x ∧ x < ls.length ∧ ls.getD x.toNat 0 = (a' : Int) - (a : Int) ∧ a < a') ∨ (er = 3 ∧ x = -1 ∧ 8 * s.size - a < 15 ∧ a' = a) := by
  have hmr := mostW_range ls hk.rng ls.length (Nat.le_refl _)
  obtain ⟨t, ht⟩ : ∃ t, min (mostW ls ls.length).toNat (8 * s.size - a) = t := ⟨_, rfl⟩
  unfold SignR at h
  rw [ht] at h
  dsimp only at h
  rcases h with ⟨i, l, hi, rfl, rfl, h1, h2, h3, h4, h5, rfl⟩ | ⟨rfl, rfl, hno, h⟩
  · left
    have h6 := (hk.at_ i hi).1
    rw [h3] at h6
    refine ⟨rfl, by omega, by omega, ?_, by omega⟩
    rw [Int.toNat_natCast, h6]
    omega
  · right
    obtain ⟨k1, i, hi, k2, k3⟩ := hk.whole hw (num s a' t) t (by omega) hno
    have hg : ∃ i, i < ls.length ∧ goesP ls ws (rvs (num s a' t) t) t i := by
      obtain ⟨e1, e2⟩ := hk.at_ i hi
      obtain ⟨e3, e4, e5⟩ := hk.word i hi (by omega)
      refine ⟨i, hi, by rw [e1]; omega, ?_⟩
      rw [e1, e3, Int.toNat_natCast, Int.toNat_natCast]
      exact k3
    rcases h with ⟨rfl, h1, h2⟩ | ⟨rfl, h1⟩
    · exact ⟨rfl, rfl, by omega, rfl⟩
    · exact absurd hg (h1 k1)
end Go.Proofs.Ytlfcepdaicngjaa.Pk
