/- The reference's Counts: the walk. -/
import Derived.Test.YtmhkhbdichlklaaCounts
import Derived.Test.YtmhkhbdichlklaaPx11
namespace Go.Proofs.Ytmhkhbdichlklaa.D8
set_option linter.unusedVariables false
set_option linter.unusedSimpArgs false
open Go Go.RowKit Go.Proofs.Ytmhkhbdichlklaa.P Go.Proofs.Ytmhkhbdichlklaa.B Go.Proofs.Ytmhkhbdichlklaa.Ar Go.Proofs.YtmhkhbdichlklaaW.PrintWords Go.Proofs.YtmhkhbdichlklaaW.PrintLast Go.Proofs.YtmhkhbdichlklaaW.PrintMore

theorem right_same (a b c : Int) : match_Right.f a b c = portmanteauref07_Right.f a b c := by
  unfold match_Right.f portmanteauref07_Right.f
  repeat' split
  all_goals first | rfl | omega
theorem right_some2 (a b c : Int) : ∃ r, portmanteauref07_Right.f a b c = some r ∧ (r = true → 0 ≤ b ∧ b ≤ 258 ∧ (b = 0 ∨ 3 ≤ b ∧ 1 ≤ c ∧ c ≤ 32768)) := by rw [← right_same]; exact right_some a b c
def okR (t : S61) : Bool := (portmanteauref07_Right.f t.f0 t.f1 t.f2).getD false
def stepR (p : List Int × List Int) (t : S61) : List Int × List Int := if okR t = true then (if t.f1 = 0 then (bump p.1 t.f0.toNat, p.2) else (bump p.1 (sL t.f1), bump p.2 (sD t.f2))) else p
def cntR (L : List S61) : List Int × List Int := L.foldl stepR start
theorem cntR_snoc (L : List S61) (t : S61) : cntR (L ++ [t]) = stepR (cntR L) t := by simp [cntR]
def toR (t : S36) : S61 := ⟨t.f0, t.f1, t.f2⟩
theorem step_same (p : List Int × List Int) (t : S36) : stepR p (toR t) = stepC p t := by
  unfold stepR stepC okR ok36
  rw [right_same]
  rfl
theorem cnt_same (L : List S36) : cntR (L.map toR) = cnt L := by
  unfold cntR cnt
  rw [List.foldl_map]
  congr 1
  funext p t
  exact step_same p t
theorem stepR_len (p : List Int × List Int) (t : S61) : (stepR p t).1.length = p.1.length ∧ (stepR p t).2.length = p.2.length := by
  unfold stepR
  repeat' split
  all_goals simp [bump_len]
theorem cntR_len (L : List S61) : (cntR L).1.length = 286 ∧ (cntR L).2.length = 30 := by
  have key : ∀ (L : List S61) (p : List Int × List Int), (L.foldl stepR p).1.length = p.1.length ∧ (L.foldl stepR p).2.length = p.2.length := by
    intro L
    induction L with
    | nil => intro p; exact ⟨rfl, rfl⟩
    | cons t L ih => intro p; rw [List.foldl_cons, (ih _).1, (ih _).2]; exact stepR_len p t
  have := key L start
  exact ⟨by rw [show cntR L = L.foldl stepR start from rfl, this.1]; exact (List.length_set ..).trans List.length_replicate, by rw [show cntR L = L.foldl stepR start from rfl, this.2]; exact List.length_replicate⟩
set_option maxHeartbeats 4000000 in
set_option maxRecDepth 100000 in
theorem countsR_calls (A : Option Addr) (c : Nat) (L : List S61) (w : World) (hC : Kd.C k61 w A L.length L) (hl : L.length ≤ c) (hok : ∀ x ∈ L, (Lit.int .u8 x.f0).wf = true) :
    Calls Try.prog 13 #[.slice A L.length c] w fun e w' => e = .returned (.tuple #[.agg (ints .u32 (cntR L).1).toArray, .agg (ints .u32 (cntR L).2).toArray]) ∧ Below w.heap.size w w' := by
  have HC := Aside0.mk hC
  have hL63 : L.length ≤ 9223372036854775807 := hC.2.1
  clear hC
  have hln := cntR_len L
  obtain ⟨p, hp⟩ : ∃ p, cntR L = p := ⟨_, rfl⟩
  rw [hp] at hln ⊢
  have HPL := Aside0.mk hp
  have HLN := Aside0.mk hln
  clear hp hln
  have hz1 := zero27s
  have hz2 := zero28
  have hz3 := zero27
  go_enter Try.func13, Try.ntmps13
  go_upto_region 4 with (fail)
  have e256 : (ints .u32 z286).set 256 (.int .u32 1) = ints .u32 start.1 := by simp [ints, start, List.map_set]
  have HA2 := Aside0.mk (((((Arr.new w 27 .u32 z286).alloc (.cells (ints .u32 z30).toArray 28)).alloc (.cells (ints .u32 start.1).toArray 27)).alloc (.cells (ints .u32 z30).toArray 28)))
  have HA3 := Aside0.mk ((((Arr.new (w.alloc (.cells (ints .u32 z286).toArray 27)) 28 .u32 z30).alloc (.cells (ints .u32 start.1).toArray 27)).alloc (.cells (ints .u32 z30).toArray 28)))
  have HA4 := Aside0.mk (((Arr.new ((w.alloc (.cells (ints .u32 z286).toArray 27)).alloc (.cells (ints .u32 z30).toArray 28)) 27 .u32 start.1).alloc (.cells (ints .u32 z30).toArray 28)))
  have HA5 := Aside0.mk (Arr.new (((w.alloc (.cells (ints .u32 z286).toArray 27)).alloc (.cells (ints .u32 z30).toArray 28)).alloc (.cells (ints .u32 start.1).toArray 27)) 28 .u32 z30)
  have HB := Aside0.mk (below_alloc (below_alloc (below_alloc (below_alloc (Below.refl w.heap.size w) (.cells (ints .u32 z286).toArray 27)) (.cells (ints .u32 z30).toArray 28)) (.cells (ints .u32 start.1).toArray 27)) (.cells (ints .u32 z30).toArray 28))
  rw [e256]
  generalize hW : (((w.alloc (.cells (ints .u32 z286).toArray 27)).alloc (.cells (ints .u32 z30).toArray 28)).alloc (.cells (ints .u32 start.1).toArray 27)).alloc (.cells (ints .u32 z30).toArray 28) = W4 at HA2 HA3 HA4 HA5 HB ⊢
  have hs1 : (w.alloc (.cells (ints .u32 z286).toArray 27)).heap.size = w.heap.size + 1 := by simp
  have hs2 : ((w.alloc (.cells (ints .u32 z286).toArray 27)).alloc (.cells (ints .u32 z30).toArray 28)).heap.size = w.heap.size + 1 + 1 := by simp
  have hs3 : (((w.alloc (.cells (ints .u32 z286).toArray 27)).alloc (.cells (ints .u32 z30).toArray 28)).alloc (.cells (ints .u32 start.1).toArray 27)).heap.size = w.heap.size + 1 + 1 + 1 := by simp
  rw [hs1] at HA3
  rw [hs2] at HA4
  rw [hs3] at HA5
  clear hs1 hs2 hs3 hW e256 hz1 hz2 hz3
  obtain ⟨g5, hg5⟩ : ∃ g5, w.heap.size + 1 + 1 + 1 = g5 := ⟨_, rfl⟩
  rw [hg5] at HA5 ⊢
  obtain ⟨g4, hg4⟩ : ∃ g4, w.heap.size + 1 + 1 = g4 := ⟨_, rfl⟩
  rw [hg4] at HA4 ⊢
  obtain ⟨g3, hg3⟩ : ∃ g3, w.heap.size + 1 = g3 := ⟨_, rfl⟩
  rw [hg3] at HA3 ⊢
  obtain ⟨g2, hg2⟩ : ∃ g2, w.heap.size = g2 := ⟨_, rfl⟩
  have HG := Aside0.mk (show g2 = w.heap.size ∧ g3 = w.heap.size + 1 ∧ g4 = w.heap.size + 2 ∧ g5 = w.heap.size + 3 by omega)
  clear hg2 hg3 hg4 hg5
  go_wp2
  go_loopw [17] (fun v17 wr => ∃ j : Nat, v17 = .int .i64 j ∧ j ≤ L.length ∧ Aside0 (Arr wr g4 27 .u32 (cntR (L.take j)).1) ∧ Aside0 (Arr wr g5 28 .u32 (cntR (L.take j)).2) ∧ Aside0 (Arr wr w.heap.size 27 .u32 z286) ∧ Aside0 (Arr wr g3 28 .u32 z30) ∧ Aside0 (Below w.heap.size w wr))
    (fun v _ => L.length - (intOf v).toNat)
  case atStart => exact ⟨0, rfl, by omega, HA4, HA5, HA2, HA3, HB⟩
  case round =>
    clear HA2 HA3 HA4 HA5 HB
    obtain ⟨j, rfl, hj, HA4, HA5, HA2, HA3, HB⟩ := hrel
    by_cases hlt : j < L.length
    · have hd : decide (j < L.length) = true := decide_eq_true hlt
      obtain ⟨ad, hA, hc0, hc1, hc2⟩ := at_T61 (Kd.C_below HC.out HB.out) (j : Int) (by omega) (by omega)
      subst hA
      have hg : rd_T61 L (j : Int) = L[j] := by unfold rd_T61; rw [List.getD_eq_getElem?_getD, Int.toNat_natCast, List.getElem?_eq_getElem hlt]; rfl
      rw [hg] at hc0 hc1 hc2
      simp only [Int.toNat_natCast] at hc0 hc1 hc2
      have hf0 := wf_u8 (hok _ (List.getElem_mem hlt))
      have hsn : cntR (L.take (j + 1)) = stepR (cntR (L.take j)) L[j] := by rw [List.take_succ_eq_append_getElem hlt, cntR_snoc]
      have hl1 := (cntR_len (L.take j)).1
      have hl2 := (cntR_len (L.take j)).2
      obtain ⟨p, hp⟩ : ∃ p, cntR (L.take j) = p := ⟨_, rfl⟩
      rw [hp] at HA4 HA5 hsn hl1 hl2
      obtain ⟨t, ht⟩ : ∃ t, L[j] = t := ⟨_, rfl⟩
      rw [ht] at hc0 hc1 hc2 hf0 hsn
      have HSN := Aside0.mk hsn
      clear hsn hg hp ht
      obtain ⟨r, hr, hrt⟩ := right_some2 t.f0 t.f1 t.f2
      have hokR : okR t = r := by unfold okR; rw [hr]; rfl
      have HR := Aside0.mk hr
      clear hr
      go_upto_region 7 with (fail)
      have H8 := Aside0.mk (heap_alloc_new wr (.cells #[.int .u8 t.f0, .int .i64 t.f1, .int .i64 t.f2] 61))
      have HA4 := Aside0.mk (HA4.out.alloc (.cells #[.int .u8 t.f0, .int .i64 t.f1, .int .i64 t.f2] 61))
      have HA5 := Aside0.mk (HA5.out.alloc (.cells #[.int .u8 t.f0, .int .i64 t.f1, .int .i64 t.f2] 61))
      have HA2 := Aside0.mk (HA2.out.alloc (.cells #[.int .u8 t.f0, .int .i64 t.f1, .int .i64 t.f2] 61))
      have HA3 := Aside0.mk (HA3.out.alloc (.cells #[.int .u8 t.f0, .int .i64 t.f1, .int .i64 t.f2] 61))
      have HB4 := Aside0.mk (below_alloc HB.out (.cells #[.int .u8 t.f0, .int .i64 t.f1, .int .i64 t.f2] 61))
      generalize wr.alloc (.cells #[.int .u8 t.f0, .int .i64 t.f1, .int .i64 t.f2] 61) = wx at H8 HB4 HA2 HA3 HA4 HA5 ⊢
      have hx0 := blk_cell H8.out 0
      have hx1 := blk_cell H8.out 1
      have hx2 := blk_cell H8.out 2
      clear hc0 hc1 hc2
      go_upto_if 23 with (go_at_call 30; refine (portmanteauref07_Right.calls t.f0 t.f1 t.f2 r _ HR.out).mono ?_; rintro e w5 ⟨rfl, hb⟩; have HB5 := Aside0.mk (below_step HB4.out hb); have H85 := Aside0.mk (blk_below H8.out hb); have HA4 := Aside0.mk (HA4.out.below hb); have HA5 := Aside0.mk (HA5.out.below hb); have HA2 := Aside0.mk (HA2.out.below hb); have HA3 := Aside0.mk (HA3.out.below hb); have hy0 := blk_cell H85.out 0; have hy1 := blk_cell H85.out 1; have hy2 := blk_cell H85.out 2; clear hb)
      cases r with
      | false =>
        have hst : stepR p t = p := by unfold stepR; rw [hokR, if_neg (by simp)]
        rw [hst] at HSN
        go_wp2
        go_roundw
        case rel => exact ⟨j + 1, by go_num, by omega, by rw [HSN.out]; exact HA4, by rw [HSN.out]; exact HA5, HA2, HA3, HB5⟩
        case measure => simp [intOf]; omega
      | true =>
        obtain ⟨hb0, hb1, hb2⟩ := hrt rfl
        by_cases hz : t.f1 = 0
        · have hst : stepR p t = (bump p.1 t.f0.toNat, p.2) := by unfold stepR; rw [hokR, if_pos rfl, if_pos hz]
          rw [hst] at HSN
          have hzb : (t.f1 == 0) = true := by simp [hz]
          have hcell := HA4.out.cell t.f0.toNat (by omega)
          have hfr := HA4.out.frozen t.f0.toNat
          have hi1 : decide (0 ≤ t.f0) = true := decide_eq_true (by omega)
          have hi2 : decide (t.f0 < 286) = true := decide_eq_true (by omega)
          go_wp2
          have hg := HG.out
          refine ⟨⟨j + 1, by go_num, by omega, ⟨by rw [HSN.out]; exact HA4.out.set _ _⟩, ⟨by rw [HSN.out]; exact HA5.out.far (by simp; omega) _⟩, ⟨HA2.out.far (by simp; omega) _⟩, ⟨HA3.out.far (by simp; omega) _⟩, ⟨below_set HB5.out (by omega)⟩⟩, by simp [intOf]; omega⟩
        · have hzb : (t.f1 == 0) = false := by simp [hz]
          obtain ⟨m1, e1, _, hle, hls⟩ := sL_eq t.f1 (by omega) (by omega)
          obtain ⟨m2, e2, _, hde, hds⟩ := sD_eq t.f2 (by omega) (by omega)
          have hst : stepR p t = (bump p.1 (sL t.f1), bump p.2 (sD t.f2)) := by unfold stepR; rw [hokR, if_pos rfl, if_neg hz]
          rw [hst] at HSN
          have HLE := Aside0.mk hle
          have HDE := Aside0.mk hde
          clear hle hde
          have hcell := HA4.out.cell (sL t.f1) (by omega)
          have hfr := HA4.out.frozen (sL t.f1)
          have hcell2 := HA5.out.cell (sD t.f2) (by omega)
          have hfr2 := HA5.out.frozen (sD t.f2)
          go_upto_region 12 with (first
            | (go_at_call 9; refine (portmanteauref08_Length.calls 1600 _ _ _ _ _ HLE.out).mono ?_; rintro e w6 ⟨rfl, ⟨nd, rfl⟩⟩)
            | (go_at_call 11; refine (portmanteauref08_Distance.calls 1600 _ _ _ _ _ HDE.out).mono ?_; rintro e w7 ⟨rfl, ⟨nd2, rfl⟩⟩))
          have hne : g4 ≠ g5 := by have := HG.out; omega
          have hne2 : g5 ≠ g4 := Ne.symm hne
          go_wp2
          have hg := HG.out
          have hi1 : sL t.f1 < p.1.length := by omega
          have hi2 : sD t.f2 < p.2.length := by omega
          have hb1 : bump p.1 (sL t.f1) = p.1.set (sL t.f1) ((p.1[sL t.f1] + 1) % 4294967296) := by unfold bump; rw [List.getD_eq_getElem?_getD, List.getElem?_eq_getElem hi1]; rfl
          have hb2 : bump p.2 (sD t.f2) = p.2.set (sD t.f2) ((p.2[sD t.f2] + 1) % 4294967296) := by unfold bump; rw [List.getD_eq_getElem?_getD, List.getElem?_eq_getElem hi2]; rfl
          have q1 : g4 ≠ Addr.block ⟨g5, sD t.f2, none⟩ := hne
          have q2 : g5 ≠ Addr.block ⟨g4, sL t.f1, none⟩ := hne2
          have q3 : w.heap.size ≠ Addr.block ⟨g4, sL t.f1, none⟩ := by show w.heap.size ≠ g4; omega
          have q4 : w.heap.size ≠ Addr.block ⟨g5, sD t.f2, none⟩ := by show w.heap.size ≠ g5; omega
          have q5 : g3 ≠ Addr.block ⟨g4, sL t.f1, none⟩ := by show g3 ≠ g4; omega
          have q6 : g3 ≠ Addr.block ⟨g5, sD t.f2, none⟩ := by show g3 ≠ g5; omega
          refine ⟨⟨j + 1, by go_num, by omega, ⟨?_⟩, ⟨?_⟩, ⟨?_⟩, ⟨?_⟩, ⟨below_set (below_set (pw_below_drewN HB5.out _) (by omega)) (by omega)⟩⟩, by simp [intOf]; omega⟩
          · rw [HSN.out, hb1]; exact Arr.far (Arr.set (Arr.drewN HA4.out _) _ _) q1 _
          · rw [HSN.out, hb2]; exact Arr.set (Arr.far (Arr.drewN HA5.out _) q2 _) _ _
          · exact Arr.far (Arr.far (Arr.drewN HA2.out _) q3 _) q4 _
          · exact Arr.far (Arr.far (Arr.drewN HA3.out _) q5 _) q6 _
    · have hd : decide (j < L.length) = false := decide_eq_false hlt
      obtain rfl : j = L.length := by omega
      rw [List.take_length] at HA4 HA5
      go_upto_region 15 with (fail)
      rw [HPL.out] at HA4 HA5
      have hr4 := HA4.out.range
      have hr5 := HA5.out.range
      have ht2 := HA2.out.there
      have ht3 := HA3.out.there
      obtain ⟨csA, hcsA⟩ : ∃ csA, ints .u32 p.1 = csA := ⟨_, rfl⟩
      obtain ⟨csB, hcsB⟩ : ∃ csB, ints .u32 p.2 = csB := ⟨_, rfl⟩
      have hla : csA.length = 286 := by rw [← hcsA, ints_len]; exact HLN.out.1
      have hlb : csB.length = 30 := by rw [← hcsB, ints_len]; exact HLN.out.2
      have hoa : ∀ v ∈ csA, v.oneCell' = true := fun v hv => by rw [← hcsA] at hv; obtain ⟨x, _, rfl⟩ := List.mem_map.1 hv; rfl
      have hob : ∀ v ∈ csB, v.oneCell' = true := fun v hv => by rw [← hcsB] at hv; obtain ⟨x, _, rfl⟩ := List.mem_map.1 hv; rfl
      rw [hcsA] at hr4
      rw [hcsB] at hr5
      have HCA := Aside0.mk hcsA
      have HCB := Aside0.mk hcsB
      rw [show z286.length = 286 from List.length_replicate] at ht2
      rw [show z30.length = 30 from List.length_replicate] at ht3
      have hu27 := Try.underlying27
      have hu28 := Try.underlying28
      have hi27 : (Try.prog.info? 27).map (·.size) = some csA.length := by rw [hla]; exact info27
      have hi28 : (Try.prog.info? 28).map (·.size) = some csB.length := by rw [hlb]; exact info28
      have hg := HG.out
      clear hcsA hcsB
      refine wp_region_held_drew (S := fun W' => W'.rangeAt g4 0 csA ∧ W'.rangeAt g5 0 csB ∧ W'.there w.heap.size 0 286 ∧ W'.there g3 0 30) (by kernel_rfl) ⟨hr4, hr5, ht2, ht3⟩ (fun hHeld => ?_)
      refine wpAnyH_take (i := 0) (oi := _) (v := _) rfl (by kernel_rfl) (by kernel_rfl) (by kernel_rfl) (fun _ _ _ h => h) (yieldsIf_load_mid (by rfl) _ _ rfl _ _ rfl csA _ (fun _ hS => hS.1) hu27 rfl hi27) (by assumption) ?_
      (try simp only [Act.put, List.setIfInBounds_toArray, List.set_cons_zero, List.set_cons_succ])
      refine wpAnyH_take (i := 1) (oi := _) (v := _) rfl (by kernel_rfl) (by kernel_rfl) (by kernel_rfl) (fun _ _ _ h => h) (yieldsIf_load_mid (by rfl) _ _ rfl _ _ rfl csB _ (fun _ hS => hS.2.1) hu28 rfl hi28) (by assumption) ?_
      (try simp only [Act.put, List.setIfInBounds_toArray, List.set_cons_zero, List.set_cons_succ])
      refine wpAnyH_ready (rs := [2]) (by kernel_rfl) (by simp) ?_
      refine AllReadyH.cons (o := _) rfl (fun K hK => ?_) AllReadyH.nil
      rw [if_pos (by rfl)]
      refine wp_store_mid _ _ _ rfl _ _ csA.toArray rfl rfl (by have hq := hHeld.2.2.1; rw [← hla] at hq; exact hq) hi27 (all_oneCell_toArray hoa) ?_
      simp only [Act.put, List.setIfInBounds_toArray, List.set_cons_zero, List.set_cons_succ, List.toList_toArray]
      refine hK.out _ _ ?_ (fun hHeld2 => ?_)
      · obtain ⟨s1, s2, s3, s4⟩ := hHeld
        exact ⟨by go_keep_ranges, by go_keep_ranges, by go_keep_ranges, by go_keep_ranges⟩
      clear hK K
      refine wpAnyH_ready (rs := [3]) (by kernel_rfl) (by simp) ?_
      refine AllReadyH.cons (o := _) rfl (fun K hK => ?_) AllReadyH.nil
      rw [if_pos (by rfl)]
      refine wp_store_mid _ _ _ rfl _ _ csB.toArray rfl rfl (by have hq := hHeld2.2.2.2; rw [← hlb] at hq; exact hq) hi28 (all_oneCell_toArray hob) ?_
      simp only [Act.put, List.setIfInBounds_toArray, List.set_cons_zero, List.set_cons_succ, List.toList_toArray]
      refine hK.out _ _ ?_ (fun hHeld3 => ?_)
      · obtain ⟨s1, s2, s3, s4⟩ := hHeld2
        exact ⟨by go_keep_ranges, by go_keep_ranges, by go_keep_ranges, by go_keep_ranges⟩
      clear hK K
      refine wpAnyH_done (by kernel_rfl) ?_ _
      simp only [List.getElem_toArray, List.getElem_cons_zero, List.getElem_cons_succ]
      go_wp2
      have hr2 := hHeld3.2.2.1
      refine bodyPost_ret (results_rows2 rfl _ _ _ w.heap.size g3 csA csB _ _ rfl rfl ?_ ?_ hu27 rfl hi27 hu28 rfl hi28) rfl ⟨by rw [HCA.out, HCB.out], ?_⟩
      · refine World.rangeAt_setCells_apart (World.rangeAt_setCells_same _ _ _ _ ?_) _ _ _ (by omega)
        rw [hla]; exact hHeld.2.2.1
      · refine World.rangeAt_setCells_same _ _ _ _ ?_
        rw [hlb]; exact hHeld2.2.2.2
      · exact below_setCells (by omega) _ _ _ (below_setCells (by omega) _ _ _ (Below.drew HB.out))
end Go.Proofs.Ytmhkhbdichlklaa.D8
