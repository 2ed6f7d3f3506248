/- The reference's PrintStamp: three times in an array: the walk. -/
import Derived.Test.YtloojhhjljneeaaRefStamps
import Derived.Test.YtloojhhjljneeaaPx7
namespace Go.Proofs.Ytloojhhjljneeaa.St
set_option linter.unusedVariables false
set_option linter.unusedSimpArgs false
open Go Go.RowKit Go.Proofs.Ytloojhhjljneeaa.P Go.Proofs.Ytloojhhjljneeaa.B Go.Proofs.Ytloojhhjljneeaa.Num Go.Proofs.Ytloojhhjljneeaa.Cur Go.Proofs.YtloojhhjljneeaaW.PrintWords Go.Proofs.YtloojhhjljneeaaW.PrintLast Go.Proofs.YtloojhhjljneeaaW.PrintMore

def prs (f : Nat) (c : Bool) (xs : List Int) : Nat → List UInt8
  | 0 => [UInt8.ofNat f]
  | i + 1 => prs f c xs i ++ piece f c (xs.getD i 0) i
theorem prs_3 (f : Nat) (c : Bool) (x0 x1 x2 : Int) : prs f c [x0, x1, x2] 3 = prints f c x0 x1 x2 := rfl
theorem prs_len (f : Nat) (c : Bool) (xs : List Int) : ∀ i, (prs f c xs i).length ≤ 1 + 4 * i
  | 0 => by simp [prs]
  | i + 1 => by have := prs_len f c xs i; have := piece_le f c (xs.getD i 0) i; rw [prs, List.length_append]; omega
theorem one_string (W : World) (f : Nat) (hf : f < 256) : (convert 74 9 (Value.slice (some ⟨W.heap.size, 0, none⟩) 1 1)).run Try.prog (W.alloc (.cells #[.int .u8 (f : Int)] 5)) = .ok (.string (strN [UInt8.ofNat f])) (W.alloc (.cells #[.int .u8 (f : Int)] 5)) := by
  have hC : Kd.C (Kd.int .u8) (W.alloc (.cells #[.int .u8 (f : Int)] 5)) (some ⟨W.heap.size, 0, none⟩) 1 [(f : Int)] := by
    refine ⟨rfl, by omega, fun _ => ⟨_, rfl, fun j p hp => ?_⟩⟩
    have hj : j = 0 := by have := (List.getElem?_eq_some_iff.1 hp).1; simp at this; omega
    subst hj
    simp at hp
    subst hp
    refine ⟨[.int .u8 (f : Int)], rfl, rfl, fun i u hu => ?_⟩
    have hi : i = 0 := by have := (List.getElem?_eq_some_iff.1 hu).1; simp at this; omega
    subst hi
    simp at hu
    subst hu
    exact blk_cell (heap_alloc_new W (.cells #[.int .u8 (f : Int)] 5)) 0
  have h := Kd.C_string (P := Try.prog) (c := 1) Try.underlying74 Try.underlying5 (dst := 9) Try.underlying9 hC
  rwa [strN_eq [(f : Int)] [UInt8.ofNat f] (by simp [Nat.mod_eq_of_lt hf])] at h
set_option maxHeartbeats 1000000 in
set_option maxRecDepth 100000 in
theorem refprint_calls (y : Nat) (hy : y < 256) (x0 x1 x2 : Int) (c : Bool) (w : World) (h0 : -2147483648 ≤ x0 ∧ x0 < 2147483648) (h1 : -2147483648 ≤ x1 ∧ x1 < 2147483648) (h2 : -2147483648 ≤ x2 ∧ x2 < 2147483648) :
    Calls Try.prog 16 #[.agg #[.int .u8 y, .int .i32 x0, .int .i32 x1, .int .i32 x2], .bool c] w fun e w' => e = .returned (.string (strN (prints (y % 8) c x0 x1 x2))) ∧ Below w.heap.size w w' := by
  have hu := Try.underlying37
  obtain ⟨f, hf⟩ : ∃ f, y % 8 = f := ⟨_, rfl⟩
  have hf8 : f < 8 := by omega
  have hfi : (y : Int) % 8 = (f : Int) := by omega
  have hft : Int.tmod (y : Int) 8 = (f : Int) := by rw [Int.tmod_eq_emod_of_nonneg (by omega)]; exact hfi
  rw [hf]
  clear hf
  have hcv := one_string (w.alloc (.cells #[.int .u8 (y : Int), .int .i32 x0, .int .i32 x1, .int .i32 x2] 37)) f (by omega)
  simp only [World.size_alloc] at hcv
  have HX := Aside0.mk (blk_alloc (heap_alloc_new w (.cells #[.int .u8 (y : Int), .int .i32 x0, .int .i32 x1, .int .i32 x2] 37)) (.cells #[.int .u8 (f : Int)] 5))
  have HB := Aside0.mk (below_alloc (below_alloc (Below.refl w.heap.size w) (.cells #[.int .u8 (y : Int), .int .i32 x0, .int .i32 x1, .int .i32 x2] 37)) (.cells #[.int .u8 (f : Int)] 5))
  go_enter Try.func16, Try.ntmps16
  go_wp2
  clear hcv hfi hft hy
  go_loopw [6, 7, 8] (fun v6 v7 v8 wr => ∃ (i k : Nat), v6 = .string (strN (prs f c [x0, x1, x2] i)) ∧ v7 = .int .u8 (k : Int) ∧ v8 = .int .i64 i ∧ i ≤ 3 ∧ Aside0 (k = 2 ^ i)
      ∧ Aside0 (wr.heap[w.heap.size]? = some (.cells #[.int .u8 (y : Int), .int .i32 x0, .int .i32 x1, .int .i32 x2] 37 (0, 0))) ∧ Aside0 (Below w.heap.size w wr))
    (fun _ _ v8 _ => 3 - (intOf v8).toNat)
  case atStart => exact ⟨0, 1, rfl, rfl, rfl, by omega, ⟨rfl⟩, HX, HB⟩
  case round =>
    clear HX HB
    obtain ⟨i, k, rfl, rfl, rfl, hi, HK, HX, HB⟩ := hrel
    by_cases hlt : i < 3
    · have hd : decide (i < 3) = true := decide_eq_true hlt
      obtain ⟨q, hq⟩ : ∃ q, f / 2 ^ i = q := ⟨_, rfl⟩
      have hkk : k = 2 ^ i := HK.out
      have hqk : f / k = q := by rw [hkk]; exact hq
      have hk4 : k ≤ 4 := by rw [hkk]; calc 2 ^ i ≤ 2 ^ 2 := Nat.pow_le_pow_right (by decide) (by omega)
        _ = 4 := by decide
      have hk1 : 1 ≤ k := by rw [hkk]; exact Nat.pow_pos (by decide)
      have hq1 : Int.tdiv (f : Int) (k : Int) = (q : Int) := by rw [← hqk]; exact (Int.ofNat_tdiv f k).symm
      have hq2 : (f : Int) / (k : Int) = (q : Int) := by rw [← hqk]; simp
      have hq8 : q < 8 := by rw [← hqk]; exact Nat.lt_of_le_of_lt (Nat.div_le_self _ _) (by omega)
      have hk0 : ((k : Int) == 0) = false := by simp; omega
      have HQ := Aside0.mk hq
      clear hq hqk hkk
      have HK2 : Aside0 (k * 2 = 2 ^ (i + 1)) := ⟨by rw [Nat.pow_succ, HK.out]⟩
      clear HK
      have skip : told f i c = false → Aside0 (prs f c [x0, x1, x2] (i + 1) = prs f c [x0, x1, x2] i) := fun h => ⟨by rw [prs]; unfold piece; rw [if_neg (by rw [h]; decide), List.append_nil]⟩
      have SKIP := Aside0.mk skip
      clear skip
      by_cases hb : q % 2 = 1
      · have hb1 : ((q : Int) % 2 == 1) = true := by simp; omega
        have hb2 : (q % 2 == 1) = true := by simp; omega
        by_cases hyes : told f i c = true
        · have YES := Aside0.mk hyes
          have hct : (i = 0) ∨ (c = false) := by
            unfold told at hyes
            rw [HQ.out, decide_eq_true hb] at hyes
            cases c <;> simp at hyes ⊢
            exact hyes
          clear hyes
          by_cases h0' : i = 0
          · have h01 : ((i : Int) == 0) = true := by simp [h0']
            have h02 : (i == 0) = true := by simp [h0']
            clear h0' hct
            have hci : ∃ x, [x0, x1, x2].getD i 0 = x ∧ wr.cell? ⟨w.heap.size, 1 + i, none⟩ = some (.int .i32 x) ∧ -2147483648 ≤ x ∧ x < 2147483648 := by
              have hi3 : i = 0 ∨ i = 1 ∨ i = 2 := by omega
              rcases hi3 with rfl | rfl | rfl
              · exact ⟨_, rfl, blk_cell HX.out 1, h0⟩
              · exact ⟨_, rfl, blk_cell HX.out 2, h1⟩
              · exact ⟨_, rfl, blk_cell HX.out 3, h2⟩
            obtain ⟨x, hxx, hcx, hxl, hxh⟩ := hci
            have HXX := Aside0.mk hxx
            clear hxx
            have hi1 : decide ((i : Int) < 3) = true := decide_eq_true (by omega)
            have HP : Aside0 (prs f c [x0, x1, x2] (i + 1) = prs f c [x0, x1, x2] i ++ ofN 4 (x % 4294967296).toNat) := ⟨by rw [prs, HXX.out]; unfold piece; rw [if_pos YES.out]⟩
            have hpl := prs_len f c [x0, x1, x2] i
            obtain ⟨P, hP⟩ : ∃ P, prs f c [x0, x1, x2] i = P := ⟨_, rfl⟩
            rw [hP] at HP hpl ⊢
            have hps : (strN P).size ≤ 13 := by rw [strN_size]; omega
            obtain ⟨S, hS⟩ : ∃ S, strN P = S := ⟨_, rfl⟩
            have HS := Aside0.mk hS
            rw [hS] at hps ⊢
            clear hP hpl hS
            have hw1 : IntKind.i64.wrap (x : Int) = x := IntWalk.i64_in _ (by omega)
            obtain ⟨n, hn⟩ : ∃ n : Nat, x % 4294967296 = (n : Int) := ⟨(x % 4294967296).toNat, by omega⟩
            have hn32 : n < 4294967296 := by omega
            have ho := ref_of4 n hn32
            have HN : Aside0 ((x % 4294967296).toNat = n) := ⟨by omega⟩
            have hsz4 : (strN (ofN 4 n)).size = 4 := by rw [strN_size, ofN_length]
            have hts : (strN (ofN 4 n)).size ≤ 4 := by omega
            obtain ⟨T, hT⟩ : ∃ T, strN (ofN 4 n) = T := ⟨_, rfl⟩
            rw [hT] at hts ho
            have HO := Aside0.mk ho
            have HT := Aside0.mk hT
            clear hsz4 hT ho
            by_cases hneg : x < 0
            · have hng : decide (x < 0) = true := decide_eq_true hneg
              have hxn : x + 4294967296 = (n : Int) := by omega
              have HXN := Aside0.mk hxn
              clear hn hxn
              go_wp2_with (go_at_call 30; rw [HXN.out]; (with_reducible refine (portmanteauref01_Of.calls 100 _ _ _ _ HO.out).mono ?_); rintro e w1 ⟨rfl, hb⟩; have HX1 := Aside0.mk (blk_below HX.out hb); have HB1 := Aside0.mk (below_step HB.out hb); clear hb)
              refine ⟨⟨i + 1, k * 2, by rw [HP.out, ← strN_append, HS.out, HN.out, HT.out], by go_num, by go_num, by omega, HK2, HX1, HB1⟩, by simp [intOf]; omega⟩
            · have hng : decide (x < 0) = false := decide_eq_false hneg
              have hxn : x = (n : Int) := by omega
              have HXN := Aside0.mk hxn
              clear hn hxn
              go_wp2_with (go_at_call 30; rw [HXN.out]; (with_reducible refine (portmanteauref01_Of.calls 100 _ _ _ _ HO.out).mono ?_); rintro e w1 ⟨rfl, hb⟩; have HX1 := Aside0.mk (blk_below HX.out hb); have HB1 := Aside0.mk (below_step HB.out hb); clear hb)
              refine ⟨⟨i + 1, k * 2, by rw [HP.out, ← strN_append, HS.out, HN.out, HT.out], by go_num, by go_num, by omega, HK2, HX1, HB1⟩, by simp [intOf]; omega⟩
          · obtain rfl := hct.resolve_left h0'
            have h01 : ((i : Int) == 0) = false := by simp [h0']
            have h02 : (i == 0) = false := by simp [h0']
            clear h0' hct
            have hci : ∃ x, [x0, x1, x2].getD i 0 = x ∧ wr.cell? ⟨w.heap.size, 1 + i, none⟩ = some (.int .i32 x) ∧ -2147483648 ≤ x ∧ x < 2147483648 := by
              have hi3 : i = 0 ∨ i = 1 ∨ i = 2 := by omega
              rcases hi3 with rfl | rfl | rfl
              · exact ⟨_, rfl, blk_cell HX.out 1, h0⟩
              · exact ⟨_, rfl, blk_cell HX.out 2, h1⟩
              · exact ⟨_, rfl, blk_cell HX.out 3, h2⟩
            obtain ⟨x, hxx, hcx, hxl, hxh⟩ := hci
            have HXX := Aside0.mk hxx
            clear hxx
            have hi1 : decide ((i : Int) < 3) = true := decide_eq_true (by omega)
            have HP : Aside0 (prs f false [x0, x1, x2] (i + 1) = prs f false [x0, x1, x2] i ++ ofN 4 (x % 4294967296).toNat) := ⟨by rw [prs, HXX.out]; unfold piece; rw [if_pos YES.out]⟩
            have hpl := prs_len f false [x0, x1, x2] i
            obtain ⟨P, hP⟩ : ∃ P, prs f false [x0, x1, x2] i = P := ⟨_, rfl⟩
            rw [hP] at HP hpl ⊢
            have hps : (strN P).size ≤ 13 := by rw [strN_size]; omega
            obtain ⟨S, hS⟩ : ∃ S, strN P = S := ⟨_, rfl⟩
            have HS := Aside0.mk hS
            rw [hS] at hps ⊢
            clear hP hpl hS
            have hw1 : IntKind.i64.wrap (x : Int) = x := IntWalk.i64_in _ (by omega)
            obtain ⟨n, hn⟩ : ∃ n : Nat, x % 4294967296 = (n : Int) := ⟨(x % 4294967296).toNat, by omega⟩
            have hn32 : n < 4294967296 := by omega
            have ho := ref_of4 n hn32
            have HN : Aside0 ((x % 4294967296).toNat = n) := ⟨by omega⟩
            have hsz4 : (strN (ofN 4 n)).size = 4 := by rw [strN_size, ofN_length]
            have hts : (strN (ofN 4 n)).size ≤ 4 := by omega
            obtain ⟨T, hT⟩ : ∃ T, strN (ofN 4 n) = T := ⟨_, rfl⟩
            rw [hT] at hts ho
            have HO := Aside0.mk ho
            have HT := Aside0.mk hT
            clear hsz4 hT ho
            by_cases hneg : x < 0
            · have hng : decide (x < 0) = true := decide_eq_true hneg
              have hxn : x + 4294967296 = (n : Int) := by omega
              have HXN := Aside0.mk hxn
              clear hn hxn
              go_wp2_with (go_at_call 30; rw [HXN.out]; (with_reducible refine (portmanteauref01_Of.calls 100 _ _ _ _ HO.out).mono ?_); rintro e w1 ⟨rfl, hb⟩; have HX1 := Aside0.mk (blk_below HX.out hb); have HB1 := Aside0.mk (below_step HB.out hb); clear hb)
              refine ⟨⟨i + 1, k * 2, by rw [HP.out, ← strN_append, HS.out, HN.out, HT.out], by go_num, by go_num, by omega, HK2, HX1, HB1⟩, by simp [intOf]; omega⟩
            · have hng : decide (x < 0) = false := decide_eq_false hneg
              have hxn : x = (n : Int) := by omega
              have HXN := Aside0.mk hxn
              clear hn hxn
              go_wp2_with (go_at_call 30; rw [HXN.out]; (with_reducible refine (portmanteauref01_Of.calls 100 _ _ _ _ HO.out).mono ?_); rintro e w1 ⟨rfl, hb⟩; have HX1 := Aside0.mk (blk_below HX.out hb); have HB1 := Aside0.mk (below_step HB.out hb); clear hb)
              refine ⟨⟨i + 1, k * 2, by rw [HP.out, ← strN_append, HS.out, HN.out, HT.out], by go_num, by go_num, by omega, HK2, HX1, HB1⟩, by simp [intOf]; omega⟩
        · have hno : told f i c = false := by simpa using hyes
          have hc2 : i ≠ 0 ∧ c = true := by
            unfold told at hno
            rw [HQ.out, decide_eq_true hb] at hno
            cases c <;> simp at hno ⊢
            exact hno
          obtain ⟨h0', rfl⟩ := hc2
          have h01 : ((i : Int) == 0) = false := by simp [h0']
          have h02 : (i == 0) = false := by simp [h0']
          clear hyes
          go_wp2
          refine ⟨⟨i + 1, k * 2, by rw [(SKIP.out hno).out], by go_num, by go_num, by omega, HK2, HX, HB⟩, by simp [intOf]; omega⟩
      · have hb1 : ((q : Int) % 2 == 1) = false := by simp; omega
        have hb2 : (q % 2 == 1) = false := by simp; omega
        have hno : told f i c = false := told_no HQ.out hb
        go_wp2
        refine ⟨⟨i + 1, k * 2, by rw [(SKIP.out hno).out], by go_num, by go_num, by omega, HK2, HX, HB⟩, by simp [intOf]; omega⟩
    · have hd : decide (i < 3) = false := decide_eq_false hlt
      obtain rfl : i = 3 := by omega
      go_wp2
      go_ret
      exact ⟨rfl, HB.out⟩
end Go.Proofs.Ytloojhhjljneeaa.St
