/- BlockSigns: the signs of any length, any distance, and how often each comes: the walk through the law's own code. -/
import Derived.Test.YtmhkhbdichlklaaCountsR
import Derived.Test.YtmhkhbdichlklaaArrEq
import Derived.Test.YtmhkhbdichlklaaPx12
import Derived.Test.YtmhkhbdichlklaaPx5
namespace Go.Proofs.Ytmhkhbdichlklaa.D8
set_option linter.unusedVariables false
set_option linter.unusedSimpArgs false
open Go Go.RowKit Go.Proofs.Ytmhkhbdichlklaa.P Go.Proofs.Ytmhkhbdichlklaa.B Go.Proofs.Ytmhkhbdichlklaa.Ar Go.Proofs.YtmhkhbdichlklaaW.PrintWords Go.Proofs.YtmhkhbdichlklaaW.PrintLast Go.Proofs.YtmhkhbdichlklaaW.PrintMore
theorem awake_true : portmanteaulaw08_awake.f 40 = some true := by decide +kernel
theorem to_loop (l : List S36) (hl : l.length ≤ 400) : ∀ d i k, i + d = l.length → d < k → portmanteaulaw08_to.l0 k ((l.take i).map toR) l (l.length : Int) (i : Int) = some (l.map toR) := by
  intro d
  induction d with
  | zero =>
    intro i k hi hk
    obtain ⟨k, rfl⟩ : ∃ m, k = m + 1 := ⟨k - 1, by omega⟩
    unfold portmanteaulaw08_to.l0
    rw [if_neg (by omega), List.take_of_length_le (by omega)]
  | succ d ih =>
    intro i k hi hk
    obtain ⟨k, rfl⟩ : ∃ m, k = m + 1 := ⟨k - 1, by omega⟩
    unfold portmanteaulaw08_to.l0
    rw [if_pos (by omega), if_pos (by omega), if_pos (by omega), if_pos (by rw [List.length_map, List.length_take]; omega)]
    have hlt : i < l.length := by omega
    have hg : rd_T36 l (i : Int) = l[i] := by unfold rd_T36; rw [List.getD_eq_getElem?_getD, Int.toNat_natCast, List.getElem?_eq_getElem hlt]; rfl
    have hw : wrap64 ((i : Int) + 1) = ((i + 1 : Nat) : Int) := by rw [wrap_id (by omega) (by omega)]; simp
    rw [hg, hw]
    have := ih (i + 1) k (by omega) (by omega)
    rw [List.take_succ_eq_append_getElem hlt, List.map_append] at this
    exact this
theorem to_eq (l : List S36) (hl : l.length ≤ 400) : portmanteaulaw08_to.f 402 l = some (l.map toR) := by
  have := to_loop l hl l.length 0 402 (by omega) (by omega)
  simpa [portmanteaulaw08_to.f] using this
theorem len_both (n : Int) : ∃ a b c, block_Length.f 40 n = some (a, b, c) ∧ portmanteauref08_Length.f 1600 n = some (a, b, c) := by
  by_cases h : n < 3 ∨ 258 < n
  · exact ⟨_, _, _, (len_out n h).1, (len_out n h).2⟩
  obtain ⟨n, rfl⟩ : ∃ x : Nat, n = (x : Int) := ⟨n.toNat, by omega⟩
  by_cases h8 : n = 258
  · subst h8; exact ⟨_, _, _, len_258.1, len_258.2⟩
  obtain ⟨s, _, _, _, e1, e2⟩ := len_in n (by omega) (by omega)
  exact ⟨_, _, _, e1, e2⟩
theorem dist_both (n : Int) : ∃ a b c, block_Distance.f 40 n = some (a, b, c) ∧ portmanteauref08_Distance.f 1600 n = some (a, b, c) := by
  by_cases h : n < 1 ∨ 32768 < n
  · exact ⟨_, _, _, (dist_out n h).1, (dist_out n h).2⟩
  obtain ⟨n, rfl⟩ : ∃ x : Nat, n = (x : Int) := ⟨n.toNat, by omega⟩
  obtain ⟨s, _, _, _, e1, e2⟩ := dist_in n (by omega) (by omega)
  exact ⟨_, _, _, e1, e2⟩
end Go.Proofs.Ytmhkhbdichlklaa.D8
namespace Go.Proofs.Ytmhkhbdichlklaa.Walk
set_option linter.unusedVariables false
set_option linter.unusedSimpArgs false
open Go Go.RowKit Go.Proofs.Ytmhkhbdichlklaa.P Go.Proofs.Ytmhkhbdichlklaa.B Go.Proofs.Ytmhkhbdichlklaa.Ar Go.Proofs.Ytmhkhbdichlklaa.D8 Go.Proofs.YtmhkhbdichlklaaW.PrintWords Go.Proofs.YtmhkhbdichlklaaW.PrintLast Go.Proofs.YtmhkhbdichlklaaW.PrintMore
theorem size24 (w : World) : (sizeOf 24).run Try.prog w = .ok 1 w := by
  have h : Try.prog.info? 24 = Try.prog.info? 24 := rfl
  cases hq : Try.prog.info? 24 with
  | none => exact absurd (show (Try.prog.info? 24).isNone = false from by kernel_rfl) (by simp [hq])
  | some i =>
    have hs : (Try.prog.info? 24).map (·.size) = some 1 := by kernel_rfl
    rw [hq] at hs
    have : i.size = 1 := by simpa using hs
    simp [sizeOf, typeInfo, hq, this]

set_option maxHeartbeats 4000000 in
set_option maxRecDepth 100000 in
theorem BlockSigns (n : Int) (A : Option Addr) (c : Nat) (L : List S36) (w : World) (hn : (Lit.int .i64 n).wf = true) (hl : L.length ≤ c) (hC : Kd.C k36 w A L.length L)
    (hok : ∀ x_ ∈ L, ((Lit.int .u8 x_.f0).wf = true) ∧ ((Lit.int .i64 x_.f1).wf = true) ∧ ((Lit.int .i64 x_.f2).wf = true)) (hz : L.length * 24 ≤ 140737488351232) :
    Calls Try.prog 3 #[.int .i64 n, .slice A L.length c] w fun e w' => e = .returned (.bool true) ∧ Below w.heap.size w w' := by
  have HC := Aside0.mk hC
  have hL63 : L.length ≤ 9223372036854775807 := hC.2.1
  clear hC
  by_cases hlong : L.length ≤ 400
  · have hd4 : decide (400 < L.length) = false := decide_eq_false (by omega)
    obtain ⟨a, b, cc, l1, l2⟩ := len_both n
    obtain ⟨d, e_, f, d1, d2⟩ := dist_both n
    have HL1 := Aside0.mk l1
    have HL2 := Aside0.mk l2
    have HD1 := Aside0.mk d1
    have HD2 := Aside0.mk d2
    clear l1 l2 d1 d2
    have hln := cnt_len L
    have hok0 : ∀ x ∈ L, (Lit.int .u8 x.f0).wf = true := fun x hx => (hok x hx).1
    obtain ⟨csA, hcsA⟩ : ∃ csA, ints .u32 (cnt L).1 = csA := ⟨_, rfl⟩
    obtain ⟨csB, hcsB⟩ : ∃ csB, ints .u32 (cnt L).2 = csB := ⟨_, rfl⟩
    have hla : csA.length = 286 := by rw [← hcsA, ints_len]; exact hln.1
    have hlb : csB.length = 30 := by rw [← hcsB, ints_len]; exact hln.2
    have hoa : ∀ v ∈ csA, v.oneCell' = true := fun v hv => by rw [← hcsA] at hv; obtain ⟨x, _, rfl⟩ := List.mem_map.1 hv; rfl
    have hob : ∀ v ∈ csB, v.oneCell' = true := fun v hv => by rw [← hcsB] at hv; obtain ⟨x, _, rfl⟩ := List.mem_map.1 hv; rfl
    have hi27 : (Try.prog.info? 27).map (·.size) = some csA.length := by rw [hla]; exact info27
    have hi28 : (Try.prog.info? 28).map (·.size) = some csB.length := by rw [hlb]; exact info28
    have hEA : ∀ W : World, (Op.equalIn 10000 27 (.agg csA.toArray) (.agg csA.toArray)).run Try.prog W = .ok true W := fun W => by
      rw [← hcsA]; exact run_equalIn_ints W .u32 9998 27 24 286 Try.underlying27 Try.underlying24 size24 _ hln.1
    have hEB : ∀ W : World, (Op.equalIn 10000 28 (.agg csB.toArray) (.agg csB.toArray)).run Try.prog W = .ok true W := fun W => by
      rw [← hcsB]; exact run_equalIn_ints W .u32 9998 28 24 30 Try.underlying28 Try.underlying24 size24 _ hln.2
    have HCT := Aside0.mk (fun (W : World) (hC : Kd.C k36 W A L.length L) => (show Calls Try.prog 12 #[.slice A L.length c] W fun e w' => e = .returned (.tuple #[.agg csA.toArray, .agg csB.toArray]) ∧ Below W.heap.size W w' from by rw [← hcsA, ← hcsB]; exact counts_calls A c L W hC hl hok0))
    have HCR := Aside0.mk (fun (W : World) (A' : Option Addr) (c' : Nat) (hC : Kd.C k61 W A' (L.map toR).length (L.map toR)) (hl' : (L.map toR).length ≤ c') => (show Calls Try.prog 13 #[.slice A' (L.map toR).length c'] W fun e w' => e = .returned (.tuple #[.agg csA.toArray, .agg csB.toArray]) ∧ Below W.heap.size W w' from by
      rw [← hcsA, ← hcsB, ← cnt_same L]
      exact countsR_calls A' c' (L.map toR) W hC hl' (fun x hx => by obtain ⟨y, hy, rfl⟩ := List.mem_map.1 hx; exact hok0 y hy)))
    have hst27 : ∀ W g, W.there g 0 286 → (storeCells ⟨g, 0, none⟩ csA).run Try.prog W = .ok () (W.setCells g 0 csA) := fun W g ht =>
      run_store_row W g csA 286 hla ht hoa
    have hst28 : ∀ W g, W.there g 0 30 → (storeCells ⟨g, 0, none⟩ csB).run Try.prog W = .ok () (W.setCells g 0 csB) := fun W g ht =>
      run_store_row W g csB 30 hlb ht hob
    have HST27 := Aside0.mk hst27
    have HST28 := Aside0.mk hst28
    have HTO := Aside0.mk (to_eq L hlong)
    have HLM := Aside0.mk (show (L.map toR).length = L.length from List.length_map _)
    have HLAB := Aside0.mk (And.intro hla hlb)
    have HEA := Aside0.mk hEA
    have HEB := Aside0.mk hEB
    have HI := Aside0.mk (And.intro hi27 hi28)
    clear hcsA hcsB hln hok hok0 hoa hob hst27 hst28 hEA hEB hi27 hi28
    obtain ⟨L2, hL2⟩ : ∃ L2, L.map toR = L2 := ⟨_, rfl⟩
    rw [hL2] at HCR HTO HLM
    have hz1 := zero27
    have hz2 := zero28
    go_enter Try.func3, Try.ntmps3
    go_upto_region 9 with (first
      | (go_at_call 7; refine (portmanteaulaw08_awake.calls 40 _ _ awake_true).mono ?_; rintro e w1 ⟨rfl, ⟨nd1, rfl⟩⟩)
      | (go_at_call 8; refine (block_Length.calls 40 _ _ _ _ _ HL1.out).mono ?_; rintro e w2 ⟨rfl, ⟨nd2, rfl⟩⟩)
      | (go_at_call 9; refine (portmanteauref08_Length.calls 1600 _ _ _ _ _ HL2.out).mono ?_; rintro e w3 ⟨rfl, ⟨nd3, rfl⟩⟩)
      | (go_at_call 10; refine (block_Distance.calls 40 _ _ _ _ _ HD1.out).mono ?_; rintro e w4 ⟨rfl, ⟨nd4, rfl⟩⟩)
      | (go_at_call 11; refine (portmanteauref08_Distance.calls 1600 _ _ _ _ _ HD2.out).mono ?_; rintro e w5 ⟨rfl, ⟨nd5, rfl⟩⟩))
    have hl286 : z286.length = 286 := List.length_replicate
    have hl30 : z30.length = 30 := List.length_replicate
    have HZ := Aside0.mk (And.intro hl286 hl30)
    clear hl286 hl30
    go_upto_region 10 with (go_at_call 12; refine (HCT.out _ (Kd.C_below HC.out (by (repeat' apply pw_below_drewN); exact Below.refl _ _))).mono ?_; rintro e w6 ⟨rfl, hb6⟩; have HB6 := Aside0.mk (below_step (by (repeat' apply pw_below_drewN); exact Below.refl _ _ : Below w.heap.size w _) hb6); have H6 := Aside0.mk (two_rows w6 w w.heap.size 27 28 .u32 z286 z30 csA csB (by rw [HZ.out.1]; exact HLAB.out.1) (by rw [HZ.out.2]; exact HLAB.out.2) (by rw [HZ.out.1]; decide) (by rw [HZ.out.2]; decide) HB6.out.size HB6.out); have hs1 := HST27.out ((w6.alloc (.cells (ints .u32 z286).toArray 27)).alloc (.cells (ints .u32 z30).toArray 28)) w6.heap.size (by have := H6.out.1; rw [HZ.out.1] at this; exact this); have hs2 := HST28.out (((w6.alloc (.cells (ints .u32 z286).toArray 27)).alloc (.cells (ints .u32 z30).toArray 28)).setCells w6.heap.size 0 csA) (w6.heap.size + 1) (by have := H6.out.2.1; rw [HZ.out.2] at this; exact this); clear hb6)
    clear hs1 hs2
    obtain ⟨_, _, r1, r2, hb6, hlt6⟩ := H6.out
    generalize hW : (((w6.alloc (.cells (ints .u32 z286).toArray 27)).alloc (.cells (ints .u32 z30).toArray 28)).setCells w6.heap.size 0 csA).setCells (w6.heap.size + 1) 0 csB = W6 at r1 r2 hb6 hlt6 ⊢
    obtain ⟨g1, hg1⟩ : ∃ g, w6.heap.size = g := ⟨_, rfl⟩
    obtain ⟨g2, hg2⟩ : ∃ g, g1 + 1 = g := ⟨_, rfl⟩
    rw [hg1] at r1 r2 hlt6 ⊢
    rw [hg2] at r2 hlt6 ⊢
    have HR1 := Aside0.mk r1
    have HR2 := Aside0.mk r2
    have HB7 := Aside0.mk hb6
    have HLT := Aside0.mk hlt6
    have HG := Aside0.mk hg2
    clear r1 r2 hb6 hlt6 hW H6 HB6 hg1 hg2
    go_upto_region 11 with (first
      | (go_at_call 14; refine (portmanteaulaw08_to.calls 402 A c L L2 _ (Kd.C_below HC.out HB7.out) hl HTO.out).mono ?_; rintro e w8 ⟨v8, rfl, hR, hb⟩; obtain ⟨A8, c8, rfl, hl8, hC8⟩ := Kd.R_reads hR; have HC8 := Aside0.mk hC8; have HB8 := Aside0.mk hb; clear hR hC8 hb)
      | (go_at_call 13; refine (HCR.out _ A8 c8 HC8.out hl8).mono ?_; rintro e w9 ⟨rfl, hb⟩; have HB9 := Aside0.mk (below_step (below_step HB7.out HB8.out) hb); have HB10 := Aside0.mk (HB8.out.trans (hb.mono HB8.out.size)); have H9 := Aside0.mk (two_rows w9 w w.heap.size 27 28 .u32 z286 z30 csA csB (by rw [HZ.out.1]; exact HLAB.out.1) (by rw [HZ.out.2]; exact HLAB.out.2) (by rw [HZ.out.1]; decide) (by rw [HZ.out.2]; decide) HB9.out.size HB9.out); have H10 := Aside0.mk (two_rows w9 _ _ 27 28 .u32 z286 z30 csA csB (by rw [HZ.out.1]; exact HLAB.out.1) (by rw [HZ.out.2]; exact HLAB.out.2) (by rw [HZ.out.1]; decide) (by rw [HZ.out.2]; decide) HB10.out.size HB10.out); have hs1 := HST27.out ((w9.alloc (.cells (ints .u32 z286).toArray 27)).alloc (.cells (ints .u32 z30).toArray 28)) w9.heap.size (by have := H9.out.1; rw [HZ.out.1] at this; exact this); have hs2 := HST28.out (((w9.alloc (.cells (ints .u32 z286).toArray 27)).alloc (.cells (ints .u32 z30).toArray 28)).setCells w9.heap.size 0 csA) (w9.heap.size + 1) (by have := H9.out.2.1; rw [HZ.out.2] at this; exact this); clear hb))
    clear hs1 hs2
    obtain ⟨_, _, r3, r4, hb9, hlt9⟩ := H9.out
    have hbW := H10.out.2.2.2.2.1
    generalize hW : (((w9.alloc (.cells (ints .u32 z286).toArray 27)).alloc (.cells (ints .u32 z30).toArray 28)).setCells w9.heap.size 0 csA).setCells (w9.heap.size + 1) 0 csB = W9 at r3 r4 hb9 hbW ⊢
    obtain ⟨g3, hg3⟩ : ∃ g, w9.heap.size = g := ⟨_, rfl⟩
    obtain ⟨g4, hg4⟩ : ∃ g, g3 + 1 = g := ⟨_, rfl⟩
    rw [hg3] at r3 r4 ⊢
    rw [hg4] at r4 ⊢
    have hlt := HLT.out
    have hg := HG.out
    have E1 := Aside0.mk (rangeAt_below HR1.out hbW (show g1 < _ by omega))
    have E2 := Aside0.mk (rangeAt_below HR2.out hbW (show g2 < _ by omega))
    have E3 := Aside0.mk r3
    have E4 := Aside0.mk r4
    have HB11 := Aside0.mk hb9
    have hla := HLAB.out.1
    have hlb := HLAB.out.2
    have hEA := HEA.out
    have hEB := HEB.out
    clear hW hg3 hg4 r3 r4 hb9 hbW hlt hg H9 H10 hlt9
    go_wp2
    refine wp_load_mid 27 _ rfl g1 0 rfl csA _ E1.out Try.underlying27 rfl HI.out.1 ?_
    go_wp2
    rename_i hnext
    refine wp_load_mid 27 _ rfl g3 0 rfl csA _ E3.out Try.underlying27 rfl HI.out.1 ?_
    refine hnext _ _ ?_
    (try simp only [Act.put, List.setIfInBounds_toArray, List.set_cons_zero, List.set_cons_succ])
    refine BigFrame.wpList_want (by rfl) (fun K hK => ?_)
    go_simp
    refine hK _ _ ?_
    clear hK K
    (try simp only [Act.put, List.setIfInBounds_toArray, List.set_cons_zero, List.set_cons_succ])
    refine BigFrame.wpList_want (by rfl) (fun K hK => ?_)
    go_simp
    refine hK _ _ ?_
    clear hK K
    (try simp only [Act.put, List.setIfInBounds_toArray, List.set_cons_zero, List.set_cons_succ])
    refine BigFrame.wpList_want (by rfl) (fun K hK => ?_)
    go_simp
    refine hK _ _ ?_
    clear hK K
    (try simp only [Act.put, List.setIfInBounds_toArray, List.set_cons_zero, List.set_cons_succ])
    refine BigFrame.wpList_want (by rfl) (fun K hK => ?_)
    refine wp_load_mid 28 _ rfl g2 0 rfl csB _ E2.out Try.underlying28 rfl HI.out.2 ?_
    refine hK _ _ ?_
    clear hK K
    (try simp only [Act.put, List.setIfInBounds_toArray, List.set_cons_zero, List.set_cons_succ])
    refine BigFrame.wpList_want (by rfl) (fun K hK => ?_)
    refine wp_load_mid 28 _ rfl g4 0 rfl csB _ E4.out Try.underlying28 rfl HI.out.2 ?_
    refine hK _ _ ?_
    clear hK K
    (try simp only [Act.put, List.setIfInBounds_toArray, List.set_cons_zero, List.set_cons_succ])
    refine BigFrame.wpList_want (by rfl) (fun K hK => ?_)
    go_simp
    refine hK _ _ ?_
    clear hK K
    (try simp only [Act.put, List.setIfInBounds_toArray, List.set_cons_zero, List.set_cons_succ])
    refine BigFrame.wpList_want (by rfl) (fun K hK => ?_)
    go_simp
    refine hK _ _ ?_
    clear hK K
    (try simp only [Act.put, List.setIfInBounds_toArray, List.set_cons_zero, List.set_cons_succ])
    refine BigFrame.wpList_want (by rfl) (fun K hK => ?_)
    go_simp
    refine hK _ _ ?_
    clear hK K
    (try simp only [Act.put, List.setIfInBounds_toArray, List.set_cons_zero, List.set_cons_succ])
    go_wp2
    go_ret
    exact ⟨rfl, HB11.out⟩
  · have hd4 : decide (400 < L.length) = true := decide_eq_true (by omega)
    go_enter Try.func3, Try.ntmps3
    go_wp2_with (go_at_call 7; refine (portmanteaulaw08_awake.calls 40 _ _ awake_true).mono ?_; rintro e w1 ⟨rfl, ⟨nd1, rfl⟩⟩)
    go_ret
    exact ⟨rfl, pw_below_drewN (Below.refl _ _) _⟩
end Go.Proofs.Ytmhkhbdichlklaa.Walk
