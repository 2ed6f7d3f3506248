/- The reference's PrintWide: four numbers in an array: the walk. -/
import Derived.Test.YtloojhhjljneeaaRefWide
import Derived.Test.YtloojhhjljneeaaPx7
namespace Go.Proofs.Ytloojhhjljneeaa.Wd
set_option linter.unusedVariables false
set_option linter.unusedSimpArgs false
open Go Go.RowKit Go.Proofs.Ytloojhhjljneeaa.P Go.Proofs.Ytloojhhjljneeaa.B Go.Proofs.Ytloojhhjljneeaa.Num Go.Proofs.Ytloojhhjljneeaa.Cur Go.Proofs.YtloojhhjljneeaaW.PrintWords Go.Proofs.YtloojhhjljneeaaW.PrintLast Go.Proofs.YtloojhhjljneeaaW.PrintMore

set_option maxHeartbeats 4000000 in
set_option maxRecDepth 100000 in
theorem refwprint_calls (a0 a1 a2 a3 : Bool) (x0 x1 x2 x3 : Int) (w : World) (h0 : 0 ≤ x0 ∧ x0 < 18446744073709551616) (h1 : 0 ≤ x1 ∧ x1 < 18446744073709551616) (h2 : 0 ≤ x2 ∧ x2 < 18446744073709551616) (h3 : 0 ≤ x3 ∧ x3 < 18446744073709551616) :
    Calls Try.prog 20 #[.agg #[.int .u64 x0, .int .u64 x1, .int .u64 x2, .int .u64 x3], .agg #[.bool a0, .bool a1, .bool a2, .bool a3]] w fun e w' => e = .returned (.string (strN (wprs [a0, a1, a2, a3] [x0, x1, x2, x3] 4))) ∧ Below w.heap.size w w' := by
  have hu := Try.underlying52
  have hu2 := Try.underlying48
  have HB := Aside0.mk (below_alloc (below_alloc (Below.refl w.heap.size w) (.cells #[.int .u64 x0, .int .u64 x1, .int .u64 x2, .int .u64 x3] 52)) (.cells #[.bool a0, .bool a1, .bool a2, .bool a3] 48))
  have HX := Aside0.mk (blk_alloc (heap_alloc_new w (.cells #[.int .u64 x0, .int .u64 x1, .int .u64 x2, .int .u64 x3] 52)) (.cells #[.bool a0, .bool a1, .bool a2, .bool a3] 48))
  have HQ := Aside0.mk (heap_alloc_new (w.alloc (.cells #[.int .u64 x0, .int .u64 x1, .int .u64 x2, .int .u64 x3] 52)) (.cells #[.bool a0, .bool a1, .bool a2, .bool a3] 48))
  simp only [World.size_alloc] at HQ
  have H0 := Aside0.mk h0; have H1 := Aside0.mk h1; have H2 := Aside0.mk h2; have H3 := Aside0.mk h3
  clear h0 h1 h2 h3
  go_enter Try.func20, Try.ntmps20
  go_wp2
  generalize (w.alloc (.cells #[.int .u64 x0, .int .u64 x1, .int .u64 x2, .int .u64 x3] 52)).alloc (.cells #[.bool a0, .bool a1, .bool a2, .bool a3] 48) = wa at HB HX HQ ⊢
  go_loopw [5, 6] (fun v5 v6 wr => ∃ (i : Nat), v5 = .string (strN (wprs [a0, a1, a2, a3] [x0, x1, x2, x3] i)) ∧ v6 = .int .i64 i ∧ i ≤ 4
      ∧ Aside0 (wr.heap[w.heap.size]? = some (.cells #[.int .u64 x0, .int .u64 x1, .int .u64 x2, .int .u64 x3] 52 (0, 0))) ∧ Aside0 (wr.heap[w.heap.size + 1]? = some (.cells #[.bool a0, .bool a1, .bool a2, .bool a3] 48 (0, 0))) ∧ Aside0 (Below w.heap.size w wr))
    (fun _ v6 _ => 4 - (intOf v6).toNat)
  case atStart => exact ⟨0, rfl, rfl, by omega, HX, HQ, HB⟩
  case round =>
    clear HX HQ HB
    obtain ⟨i, rfl, rfl, hi, HX, HQ, HB⟩ := hrel
    by_cases hlt : i < 4
    · have hd : decide (i < 4) = true := decide_eq_true hlt
      have hci : ∃ x, [x0, x1, x2, x3].getD i 0 = x ∧ wr.cell? ⟨w.heap.size, i, none⟩ = some (.int .u64 x) ∧ 0 ≤ x ∧ x < 18446744073709551616 := by
        have hi4 : i = 0 ∨ i = 1 ∨ i = 2 ∨ i = 3 := by omega
        rcases hi4 with rfl | rfl | rfl | rfl
        · exact ⟨_, rfl, blk_cell HX.out 0, H0.out⟩
        · exact ⟨_, rfl, blk_cell HX.out 1, H1.out⟩
        · exact ⟨_, rfl, blk_cell HX.out 2, H2.out⟩
        · exact ⟨_, rfl, blk_cell HX.out 3, H3.out⟩
      obtain ⟨x, hxx, hcu, hx⟩ := hci
      have hqi : wr.cell? ⟨w.heap.size + 1, i, none⟩ = some (.bool ([a0, a1, a2, a3].getD i false)) := by
        have hi4 : i = 0 ∨ i = 1 ∨ i = 2 ∨ i = 3 := by omega
        rcases hi4 with rfl | rfl | rfl | rfl
        · exact blk_cell HQ.out 0
        · exact blk_cell HQ.out 1
        · exact blk_cell HQ.out 2
        · exact blk_cell HQ.out 3
      obtain ⟨b, hb⟩ : ∃ b, [a0, a1, a2, a3].getD i false = b := ⟨_, rfl⟩
      rw [hb] at hqi
      have hi1 : decide ((i : Int) < 4) = true := decide_eq_true (by omega)
      have off : b = false → wprs [a0, a1, a2, a3] [x0, x1, x2, x3] (i + 1) = wprs [a0, a1, a2, a3] [x0, x1, x2, x3] i := fun h => by rw [wprs]; unfold wpiece; rw [hb, h, if_neg (by decide), List.append_nil]
      have OFF := Aside0.mk off
      clear off
      by_cases h3 : i = 3
      · have h31 : ((i : Int) == 3) = true := by simp [h3]
        have h32 : (i == 3) = true := by simp [h3]
        cases b with
        | false =>
          clear hb h3 hxx
          go_wp2
          refine ⟨⟨i + 1, by rw [OFF.out rfl], by go_num, by omega, HX, HQ, HB⟩, by simp [intOf]; omega⟩
        | true =>
          have ha := hb
          clear hb OFF
          have hw : wid i = 4 := by unfold wid; first | rw [if_pos h3] | rw [if_neg h3]
          have hop := ref_of_wid x i hx.1 hx.2
          rw [hw, show ((4 : Nat) : Int) = 4 from rfl] at hop
          have HP : Aside0 (wprs [a0, a1, a2, a3] [x0, x1, x2, x3] (i + 1) = wprs [a0, a1, a2, a3] [x0, x1, x2, x3] i ++ ofN 4 x.toNat) := ⟨by rw [wprs]; unfold wpiece; rw [if_pos ha, hw, hxx]⟩
          have hpl := wprs_len [a0, a1, a2, a3] [x0, x1, x2, x3] i
          obtain ⟨Q, hQ⟩ : ∃ Q, wprs [a0, a1, a2, a3] [x0, x1, x2, x3] i = Q := ⟨_, rfl⟩
          rw [hQ] at HP hpl ⊢
          have hps : (strN Q).size ≤ 32 := by rw [strN_size]; omega
          obtain ⟨S, hS⟩ : ∃ S, strN Q = S := ⟨_, rfl⟩
          have HS := Aside0.mk hS
          rw [hS] at hps ⊢
          have hts : (strN (ofN 4 x.toNat)).size ≤ 8 := by rw [strN_size, ofN_length]; omega
          obtain ⟨T, hT⟩ : ∃ T, strN (ofN 4 x.toNat) = T := ⟨_, rfl⟩
          have HT := Aside0.mk hT
          rw [hT] at hts hop
          have HO := Aside0.mk hop
          clear hop hT hS hQ hpl hw h3 ha hxx
          go_wp2_with (go_at_call 30; (with_reducible refine (portmanteauref01_Of.calls 100 x 4 T _ HO.out).mono ?_); rintro e w1 ⟨rfl, hb⟩; have HX1 := Aside0.mk (blk_below HX.out hb); have HQ1 := Aside0.mk (blk_below HQ.out hb); have HB1 := Aside0.mk (below_step HB.out hb); clear hb)
          refine ⟨⟨i + 1, by rw [HP.out, ← strN_append, HS.out, HT.out], by go_num, by omega, HX1, HQ1, HB1⟩, by simp [intOf]; omega⟩
      · have h31 : ((i : Int) == 3) = false := by simp; omega
        have h32 : (i == 3) = false := by simp; omega
        cases b with
        | false =>
          clear hb h3 hxx
          go_wp2
          refine ⟨⟨i + 1, by rw [OFF.out rfl], by go_num, by omega, HX, HQ, HB⟩, by simp [intOf]; omega⟩
        | true =>
          have ha := hb
          clear hb OFF
          have hw : wid i = 8 := by unfold wid; first | rw [if_pos h3] | rw [if_neg h3]
          have hop := ref_of_wid x i hx.1 hx.2
          rw [hw, show ((8 : Nat) : Int) = 8 from rfl] at hop
          have HP : Aside0 (wprs [a0, a1, a2, a3] [x0, x1, x2, x3] (i + 1) = wprs [a0, a1, a2, a3] [x0, x1, x2, x3] i ++ ofN 8 x.toNat) := ⟨by rw [wprs]; unfold wpiece; rw [if_pos ha, hw, hxx]⟩
          have hpl := wprs_len [a0, a1, a2, a3] [x0, x1, x2, x3] i
          obtain ⟨Q, hQ⟩ : ∃ Q, wprs [a0, a1, a2, a3] [x0, x1, x2, x3] i = Q := ⟨_, rfl⟩
          rw [hQ] at HP hpl ⊢
          have hps : (strN Q).size ≤ 32 := by rw [strN_size]; omega
          obtain ⟨S, hS⟩ : ∃ S, strN Q = S := ⟨_, rfl⟩
          have HS := Aside0.mk hS
          rw [hS] at hps ⊢
          have hts : (strN (ofN 8 x.toNat)).size ≤ 8 := by rw [strN_size, ofN_length]; omega
          obtain ⟨T, hT⟩ : ∃ T, strN (ofN 8 x.toNat) = T := ⟨_, rfl⟩
          have HT := Aside0.mk hT
          rw [hT] at hts hop
          have HO := Aside0.mk hop
          clear hop hT hS hQ hpl hw h3 ha hxx
          go_wp2_with (go_at_call 30; (with_reducible refine (portmanteauref01_Of.calls 100 x 8 T _ HO.out).mono ?_); rintro e w1 ⟨rfl, hb⟩; have HX1 := Aside0.mk (blk_below HX.out hb); have HQ1 := Aside0.mk (blk_below HQ.out hb); have HB1 := Aside0.mk (below_step HB.out hb); clear hb)
          refine ⟨⟨i + 1, by rw [HP.out, ← strN_append, HS.out, HT.out], by go_num, by omega, HX1, HQ1, HB1⟩, by simp [intOf]; omega⟩
    · have hd : decide (i < 4) = false := decide_eq_false hlt
      obtain rfl : i = 4 := by omega
      go_wp2
      go_ret
      exact ⟨rfl, HB.out⟩
end Go.Proofs.Ytloojhhjljneeaa.Wd
