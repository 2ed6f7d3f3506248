/- prefix.Code: its methods goes and Length: the walks. -/
import Derived.Test.YtlfcepdaicngjaaWhole4
namespace Go.Proofs.Ytlfcepdaicngjaa.Pk
set_option linter.unusedVariables false
set_option linter.unusedSimpArgs false
open Go Go.RowKit Go.Proofs.Ytlfcepdaicngjaa.P Go.Proofs.Ytlfcepdaicngjaa.MapV Go.Proofs.YtlfcepdaicngjaaW.PrintWords Go.Proofs.YtlfcepdaicngjaaW.PrintLast Go.Proofs.YtlfcepdaicngjaaW.PrintMore
theorem IsCode.below {w w' : World} {p : Nat} {ls ws : List Int} (h : IsCode w p ls ws) (hb : Below w.heap.size w w') : IsCode w' p ls ws := by
  obtain ⟨A1, c1, A2, c2, b, h1, h2, h3, h4⟩ := h
  exact ⟨A1, c1, A2, c2, b, (hb.block p (blk_lt h1)).trans h1, Kd.C_below h2 hb, Kd.C_below h3 hb, h4.below hb⟩
theorem IsCode.lt {w : World} {p : Nat} {ls ws : List Int} (h : IsCode w p ls ws) : p < w.heap.size := by
  obtain ⟨A1, c1, A2, c2, b, h1, _⟩ := h
  exact blk_lt h1
/-- Does the word of a place go on behind t bits v? -/
def goesP (ls ws : List Int) (v t i : Nat) : Prop := (t : Int) < ls.getD i 0 ∧ (ws.getD i 0).toNat / 2 ^ ((ls.getD i 0).toNat - t) = v
theorem shr32 (x t : Nat) (ht : t ≤ 31) : shr .u32 (x : Int) (t : Int) = ((x / 2 ^ t : Nat) : Int) := by
  unfold shr
  rw [Int.toNat_natCast, Nat.min_eq_left (by simp [IntKind.bits]; omega)]
  simp
set_option maxHeartbeats 4000000 in
set_option maxRecDepth 100000 in
theorem goes_calls (p v t : Nat) (ls ws : List Int) (w : World) (hk : CodeOk ls ws) (hC : IsCode w p ls ws) (hv : v < 4294967296) (ht : t ≤ 32) :
    Calls Try.prog 28 #[.pointer (some ⟨p, 0, none⟩), .int .u32 (v : Int), .int .i64 (t : Int)] w fun e w' => ∃ b, e = .returned (.bool b) ∧ (b = true ↔ ∃ i, i < ls.length ∧ goesP ls ws v t i) ∧ Below w.heap.size w w' := by
  have HK := Aside0.mk hk
  have hlen := hk.few
  have hwl := hk.len
  obtain ⟨A1, c1, A2, c2, mb, hP, hA1, hA2, hM⟩ := hC
  have HP := Aside0.mk hP
  have HA1 := Aside0.mk hA1
  have HA2 := Aside0.mk hA2
  have hc0 := blk_cell hP 0
  have hc1 := blk_cell hP 1
  simp only [List.getElem?_toArray, List.getElem?_cons_zero, List.getElem?_cons_succ] at hc0 hc1
  have HC1 := Aside0.mk hc1
  clear hP hA1 hA2 hM hk hc1
  go_enter Try.func28, Try.ntmps28
  go_wp2
  have HB := Aside0.mk (Below.refl w.heap.size w)
  go_loopw [14] (fun v14 wr => ∃ j : Nat, v14 = .int .i64 j ∧ j ≤ ls.length ∧ Aside0 (∀ i, i < j → ¬ goesP ls ws v t i) ∧ Aside0 (Below w.heap.size w wr))
    (fun v14 _ => ls.length - (intOf v14).toNat)
  case atStart => exact ⟨0, rfl, by omega, ⟨fun i hi => absurd hi (Nat.not_lt_zero _)⟩, HB⟩
  case round =>
    clear HB hc0
    obtain ⟨j, rfl, hj, HNO, HB⟩ := hrel
    have hc1 := (HB.out.cell (World.block_lt_of_cell? w _ HC1.out)).trans HC1.out
    by_cases hlt : j < ls.length
    · have hd : decide (j < ls.length) = true := decide_eq_true hlt
      have hd2 : decide (j < ws.length) = true := decide_eq_true (by omega)
      obtain ⟨ad, hA, hx⟩ := Kd.at_int HA1.out (j : Int) (by omega) (by omega)
      cases hA
      replace hx := (HB.out.cell (World.block_lt_of_cell? w _ hx)).trans hx
      have hg : rd ls (j : Int) = ls.getD j 0 := by unfold rd; rw [Int.toNat_natCast]
      rw [hg] at hx
      simp only [Int.toNat_natCast] at hx
      obtain ⟨ad2, hA2, hy⟩ := Kd.at_int HA2.out (j : Int) (by omega) (by omega)
      cases hA2
      replace hy := (HB.out.cell (World.block_lt_of_cell? w _ hy)).trans hy
      have hg2 : rd ws (j : Int) = ws.getD j 0 := by unfold rd; rw [Int.toNat_natCast]
      rw [hg2] at hy
      simp only [Int.toNat_natCast] at hy
      obtain ⟨h4, h5⟩ := HK.out.at_ j hlt
      have hgo : goesP ls ws v t j ↔ (t : Int) < ls.getD j 0 ∧ (ws.getD j 0).toNat / 2 ^ ((ls.getD j 0).toNat - t) = v := Iff.rfl
      have hww : 0 < ls.getD j 0 → 0 ≤ ws.getD j 0 ∧ ws.getD j 0 < 32768 := by
        intro hp
        obtain ⟨h6, h7, h8⟩ := HK.out.word j hlt (by omega)
        omega
      obtain ⟨x, hxx⟩ : ∃ x : Nat, ls.getD j 0 = (x : Int) := ⟨_, h4⟩
      obtain ⟨y, hyy⟩ : ∃ y, ws.getD j 0 = y := ⟨_, rfl⟩
      rw [hxx] at hx hgo hww
      rw [hyy] at hy hgo hww
      have hx15 : x ≤ 15 := by omega
      have HGO := Aside0.mk hgo
      clear hgo hxx hyy hg hg2 h4 h5
      by_cases hz : t < x
      · have hzb : decide (t < x) = true := decide_eq_true hz
        obtain ⟨y, rfl⟩ : ∃ z : Nat, y = (z : Int) := ⟨y.toNat, by have := hww (by omega); omega⟩
        have hsub : (x : Int) - (t : Int) = ((x - t : Nat) : Int) := by omega
        have hsh := shr32 y (x - t) (by omega)
        rw [Int.toNat_natCast, Int.toNat_natCast] at HGO
        have HCAST : Aside0 ((y : Int) / 2 ^ (x - t) = ((y / 2 ^ (x - t) : Nat) : Int)) := ⟨by simp⟩
        go_wp2
        · rename_i hq
          have he : y / 2 ^ (x - t) = v := by have := beq_iff_eq.1 hq; rw [HCAST.out] at this; omega
          go_ret
          exact ⟨true, rfl, by simp; exact ⟨j, hlt, HGO.out.2 ⟨by omega, he⟩⟩, HB.out⟩
        · rename_i hq
          have he : y / 2 ^ (x - t) ≠ v := fun e => by rw [HCAST.out, e] at hq; simp at hq
          refine ⟨⟨j + 1, by go_num, by omega, ⟨fun i hi => ?_⟩, HB⟩, by simp [intOf]; omega⟩
          by_cases hij : i = j
          · subst hij; exact fun q => he (HGO.out.1 q).2
          · exact HNO.out i (by omega)
      · have hzb : decide (t < x) = false := decide_eq_false hz
        go_wp2
        refine ⟨⟨j + 1, by go_num, by omega, ⟨fun i hi => ?_⟩, HB⟩, by simp [intOf]; omega⟩
        by_cases hij : i = j
        · subst hij; exact fun q => hz (by have := (HGO.out.1 q).1; omega)
        · exact HNO.out i (by omega)
    · have hd : decide (j < ls.length) = false := decide_eq_false hlt
      obtain rfl : j = ls.length := by omega
      go_wp2
      go_ret
      exact ⟨false, rfl, by simp; intro i hi; exact HNO.out i hi, HB.out⟩
end Go.Proofs.Ytlfcepdaicngjaa.Pk
