/- (*finder).best: the longest copy at a place: the walk. Printed by genbest.py. -/
import Derived.Test.YtgpmhdefpbmhjaaPass
namespace Go.Proofs.Ytgpmhdefpbmhjaa.Fi
set_option linter.unusedVariables false
set_option linter.unusedSimpArgs false
open Go Go.RowKit Go.Proofs.Ytgpmhdefpbmhjaa.P Go.Proofs.Ytgpmhdefpbmhjaa.B Go.Proofs.Ytgpmhdefpbmhjaa.D7 Go.Proofs.Ytgpmhdefpbmhjaa.Ch Go.Proofs.Ytgpmhdefpbmhjaa.MapG Go.Proofs.Ytgpmhdefpbmhjaa.MapV Go.Proofs.YtgpmhdefpbmhjaaW.PrintWords Go.Proofs.YtgpmhdefpbmhjaaW.PrintLast Go.Proofs.YtgpmhdefpbmhjaaW.PrintMore
attribute [local go_sem] max2_int min2_int max_two min_two
/-- The finder's block and its maps. -/
structure Fin (w : World) (F bc bs base : Nat) (s : ByteArray) (ch gd : Int) (lz : Bool) (n : Nat) : Prop where
  blk : w.heap[F]? = some (.cells #[.string s, .int .i64 ch, .int .i64 gd, .bool lz, .map (some bc), .map (some bs)] 57 (0, 0))
  chains : OwnsG Try.prog 40 encT w bc base (chL s (places s))
  seen : OwnsV encT w bs (seenG s n)
theorem Fin.below {w w1 : World} {F bc bs base : Nat} {s : ByteArray} {ch gd : Int} {lz : Bool} {n : Nat} (h : Fin w F bc bs base s ch gd lz n) (hb : Below w.heap.size w w1) : Fin w1 F bc bs base s ch gd lz n :=
  ⟨blk_below h.blk hb, h.chains.below hb, h.seen.below hb⟩
set_option maxHeartbeats 8000000 in
set_option maxRecDepth 100000 in
theorem best_short (F bc bs base : Nat) (s : ByteArray) (ch gd : Int) (lz : Bool) (p : Nat) (w : World) (hp : p ≤ 2000000) (hs : s.size ≤ 1048576) (hF : Fin w F bc bs base s ch gd lz p) (h3 : s.size < p + 3) :
    Calls Try.prog 21 #[.pointer (some ⟨F, 0, none⟩), .int .i64 (p : Int)] w fun e w' => e = .returned (.tuple #[.int .i64 0, .int .i64 0]) ∧ Below w.heap.size w w' := by
  have hc0 := blk_cell hF.blk 0
  have d3 : decide ((s.size : Int) < (p : Int) + 3) = true := decide_eq_true (by omega)
  have d3n : decide (s.size < p + 3) = true := decide_eq_true h3
  clear hF h3
  go_enter Try.func21, Try.ntmps21
  go_wp2
  first | go_ret2 | go_ret
  exact ⟨rfl, Below.refl _ _⟩
set_option maxHeartbeats 8000000 in
set_option maxRecDepth 100000 in
theorem best_none (F bc bs base : Nat) (s : ByteArray) (ch : Nat) (gd : Int) (lz : Bool) (p : Nat) (w : World) (hp : p ≤ 2000000) (hs : s.size ≤ 1048576) (hch : ch ≤ 5000) (hF : Fin w F bc bs base s ch gd lz p) (h3 : p + 3 ≤ s.size) (x y z : Int)
    (hX : encT (tri s p) = .agg #[.int .u8 x, .int .u8 y, .int .u8 z]) (c : Nat) (hc : cnt s (tri s p) p = c) (h0 : c = 0)
    (hrun : ∀ u : World, u.heap[bc]? = w.heap[bc]? → (Instr.lookup 37 (.map (some bc)) (encT (tri s p)) false).run Try.prog u = .ok (.slice none 0 0) u) :
    Calls Try.prog 21 #[.pointer (some ⟨F, 0, none⟩), .int .i64 (p : Int)] w fun e w' => e = .returned (.tuple #[.int .i64 0, .int .i64 0]) ∧ Below w.heap.size w w' := by
  have hc0 := blk_cell hF.blk 0
  have hbc : bc < w.heap.size := by obtain ⟨es, clock, hm, _⟩ := hF.chains; exact (Array.getElem?_eq_some_iff.1 hm).1
  have hT := fun u => triple_calls s p u (by omega) (by omega)
  have hL := fun u h => look_seen s p p bs (tri s p) u (seenG s p) h (fun _ => rfl)
  rw [hX] at hT hrun
  rw [hX, hc] at hL
  subst h0
  simp only [Int.natCast_zero, Int.ofNat_zero, Int.cast_ofNat_Int, Int.ofNat_eq_natCast] at hL
  have d3 : decide ((s.size : Int) < (p : Int) + 3) = false := decide_eq_false (by omega)
  have d3n : decide (s.size < p + 3) = false := decide_eq_false (by omega)
  have HT := Aside0.mk hT
  have HLS := Aside0.mk hL
  have HLC := Aside0.mk hrun
  have HF0 := Aside0.mk hF
  clear hT hL hrun hF hX hc h3 hs
  go_enter Try.func21, Try.ntmps21
  go_upto_region 4 with (go_at_call 18; (with_reducible refine (HT.out _).mono ?_); rintro e w1 ⟨rfl, hb⟩; have HB1 := Aside0.mk hb; have HF1 := Aside0.mk (HF0.out.below hb); clear hb)
  have HB2 := Aside0.mk (below_alloc HB1.out (.cells #[.int .u8 x, .int .u8 y, .int .u8 z] 40))
  have HF2 := Aside0.mk (HF1.out.below (below_alloc (Below.refl w1.heap.size w1) (.cells #[.int .u8 x, .int .u8 y, .int .u8 z] 40)))
  have HT2 := Aside0.mk (heap_alloc_new w1 (.cells #[.int .u8 x, .int .u8 y, .int .u8 z] 40))
  generalize w1.alloc (.cells #[.int .u8 x, .int .u8 y, .int .u8 z] 40) = w2 at HB2 HF2 HT2 ⊢
  generalize w1.heap.size = g6 at HT2 ⊢
  have HBC := Aside0.mk (show w2.drew.heap[bc]? = w.heap[bc]? from HB2.out.block bc hbc)
  refine start_ (n := 14) (S := fun w' => w'.cell? ⟨F, 4, none⟩ = some (.map (some bc)) ∧ w'.cell? ⟨F, 5, none⟩ = some (.map (some bs)) ∧ w'.cell? ⟨g6, 0, none⟩ = some (.int .u8 x) ∧ w'.cell? ⟨g6, 1, none⟩ = some (.int .u8 y) ∧ w'.cell? ⟨g6, 2, none⟩ = some (.int .u8 z) ∧ (Instr.lookup 37 (.map (some bc)) (.agg #[.int .u8 x, .int .u8 y, .int .u8 z]) false).run Try.prog w' = .ok (.slice none 0 0) w' ∧ (Instr.lookup 55 (.map (some bs)) (.agg #[.int .u8 x, .int .u8 y, .int .u8 z]) false).run Try.prog w' = .ok (.int .i64 0) w') (ds := []) #[false, false, false, false, false, false, false, false, false, false, false, false, false, false] (by as_aux_lemma => kernel_rfl) rfl rfl ⟨(blk_cell HF2.out.blk 4), (blk_cell HF2.out.blk 5), (blk_cell HT2.out 0), (blk_cell HT2.out 1), (blk_cell HT2.out 2), (HLC.out w2.drew HBC.out), (HLS.out w2.drew (OwnsV.move HF2.out.seen rfl))⟩ (fun hHeld => ?_)
  refine pure_ (i := 0) (N := some 26) (v := ?_) (a' := ?_) #[true, false, false, false, false, false, false, false, false, false, false, false, false, false] rfl rfl (by as_aux_lemma => kernel_rfl) (fun _ _ _ h => h) (Or.inl ⟨by rfl, ?_⟩) ?_ ?_
  rotate_left
  · intro w'
    go_simp
    with_reducible rfl
  rotate_left
  · simp only [Act.put, List.setIfInBounds_toArray, List.set_cons_zero, List.set_cons_succ, i64_w, i32_w]
    rfl
  refine pure_ (i := 1) (N := some 27) (v := ?_) (a' := ?_) #[true, true, false, false, false, false, false, false, false, false, false, false, false, false] rfl rfl (by as_aux_lemma => kernel_rfl) (fun _ _ _ h => h) (Or.inl ⟨by rfl, ?_⟩) ?_ ?_
  rotate_left
  · intro w'
    go_simp
    with_reducible rfl
  rotate_left
  · simp only [Act.put, List.setIfInBounds_toArray, List.set_cons_zero, List.set_cons_succ, i64_w, i32_w]
    rfl
  refine pure_ (i := 2) (N := some 28) (v := ?_) (a' := ?_) #[true, true, true, false, false, false, false, false, false, false, false, false, false, false] rfl rfl (by as_aux_lemma => kernel_rfl) (fun _ _ _ h => h) (Or.inl ⟨by rfl, ?_⟩) ?_ ?_
  rotate_left
  · intro w'
    go_simp
    with_reducible rfl
  rotate_left
  · simp only [Act.put, List.setIfInBounds_toArray, List.set_cons_zero, List.set_cons_succ, i64_w, i32_w]
    rfl
  refine pure_ (i := 6) (N := some 32) (v := ?_) (a' := ?_) #[true, true, true, false, false, false, true, false, false, false, false, false, false, false] rfl rfl (by as_aux_lemma => kernel_rfl) (fun _ _ _ h => h) (Or.inl ⟨by rfl, ?_⟩) ?_ ?_
  rotate_left
  · intro w'
    go_simp
    with_reducible rfl
  rotate_left
  · simp only [Act.put, List.setIfInBounds_toArray, List.set_cons_zero, List.set_cons_succ, i64_w, i32_w]
    rfl
  refine pure_ (i := 7) (N := some 33) (v := ?_) (a' := ?_) #[true, true, true, false, false, false, true, true, false, false, false, false, false, false] rfl rfl (by as_aux_lemma => kernel_rfl) (fun _ _ _ h => h) (Or.inl ⟨by rfl, ?_⟩) ?_ ?_
  rotate_left
  · intro w'
    go_simp
    with_reducible rfl
  rotate_left
  · simp only [Act.put, List.setIfInBounds_toArray, List.set_cons_zero, List.set_cons_succ, i64_w, i32_w]
    rfl
  refine pure_ (i := 8) (N := some 34) (v := ?_) (a' := ?_) #[true, true, true, false, false, false, true, true, true, false, false, false, false, false] rfl rfl (by as_aux_lemma => kernel_rfl) (fun _ _ _ h => h) (Or.inl ⟨by rfl, ?_⟩) ?_ ?_
  rotate_left
  · intro w'
    go_simp
    with_reducible rfl
  rotate_left
  · simp only [Act.put, List.setIfInBounds_toArray, List.set_cons_zero, List.set_cons_succ, i64_w, i32_w]
    rfl
  refine take_ (i := 3) (N := some 29) (v := ?_) (a' := ?_) #[true, true, true, true, false, false, true, true, true, false, false, false, false, false] rfl rfl (by as_aux_lemma => kernel_rfl) (fun _ _ _ h => h) (Or.inl ⟨by rfl, ?_⟩) hHeld ?_ ?_
  rotate_left
  · rintro w' ⟨s0, s1, s2, s3, s4, s5, s6⟩
    go_simp
    with_reducible rfl
  rotate_left
  · simp only [Act.put, List.setIfInBounds_toArray, List.set_cons_zero, List.set_cons_succ, i64_w, i32_w]
    rfl
  refine take_ (i := 4) (N := some 30) (v := ?_) (a' := ?_) #[true, true, true, true, true, false, true, true, true, false, false, false, false, false] rfl rfl (by as_aux_lemma => kernel_rfl) (fun _ _ _ h => h) (Or.inl ⟨by rfl, ?_⟩) hHeld ?_ ?_
  rotate_left
  · rintro w' ⟨s0, s1, s2, s3, s4, s5, s6⟩
    go_simp
    with_reducible rfl
  rotate_left
  · simp only [Act.put, List.setIfInBounds_toArray, List.set_cons_zero, List.set_cons_succ, i64_w, i32_w]
    rfl
  refine take_ (i := 5) (N := some 31) (v := ?_) (a' := ?_) #[true, true, true, true, true, true, true, true, true, false, false, false, false, false] rfl rfl (by as_aux_lemma => kernel_rfl) (fun _ _ _ h => h) (Or.inl ⟨by rfl, ?_⟩) hHeld ?_ ?_
  rotate_left
  · rintro w' ⟨s0, s1, s2, s3, s4, s5, s6⟩
    go_simp
    with_reducible rfl
  rotate_left
  · simp only [Act.put, List.setIfInBounds_toArray, List.set_cons_zero, List.set_cons_succ, i64_w, i32_w]
    rfl
  refine take_ (i := 9) (N := some 35) (v := ?_) (a' := ?_) #[true, true, true, true, true, true, true, true, true, true, false, false, false, false] rfl rfl (by as_aux_lemma => kernel_rfl) (fun _ _ _ h => h) (Or.inl ⟨by rfl, ?_⟩) hHeld ?_ ?_
  rotate_left
  · rintro w' ⟨s0, s1, s2, s3, s4, s5, s6⟩
    go_simp
    with_reducible rfl
  rotate_left
  · simp only [Act.put, List.setIfInBounds_toArray, List.set_cons_zero, List.set_cons_succ, i64_w, i32_w]
    rfl
  refine take_ (i := 10) (N := some 36) (v := ?_) (a' := ?_) #[true, true, true, true, true, true, true, true, true, true, true, false, false, false] rfl rfl (by as_aux_lemma => kernel_rfl) (fun _ _ _ h => h) (Or.inl ⟨by rfl, ?_⟩) hHeld ?_ ?_
  rotate_left
  · rintro w' ⟨s0, s1, s2, s3, s4, s5, s6⟩
    go_simp
    with_reducible rfl
  rotate_left
  · simp only [Act.put, List.setIfInBounds_toArray, List.set_cons_zero, List.set_cons_succ, i64_w, i32_w]
    rfl
  refine take_ (i := 11) (N := some 37) (v := ?_) (a' := ?_) #[true, true, true, true, true, true, true, true, true, true, true, true, false, false] rfl rfl (by as_aux_lemma => kernel_rfl) (fun _ _ _ h => h) (Or.inl ⟨by rfl, ?_⟩) hHeld ?_ ?_
  rotate_left
  · rintro w' ⟨s0, s1, s2, s3, s4, s5, s6⟩
    go_simp
    with_reducible rfl
  rotate_left
  · simp only [Act.put, List.setIfInBounds_toArray, List.set_cons_zero, List.set_cons_succ, i64_w, i32_w]
    rfl
  refine pure_ (i := 12) (N := some 38) (v := ?_) (a' := ?_) #[true, true, true, true, true, true, true, true, true, true, true, true, true, false] rfl rfl (by as_aux_lemma => kernel_rfl) (fun _ _ _ h => h) (Or.inl ⟨by rfl, ?_⟩) ?_ ?_
  rotate_left
  · intro w'
    go_simp
    with_reducible rfl
  rotate_left
  · simp only [Act.put, List.setIfInBounds_toArray, List.set_cons_zero, List.set_cons_succ, i64_w, i32_w]
    rfl
  refine pure_ (i := 13) (N := some 7) (v := ?_) (a' := ?_) #[true, true, true, true, true, true, true, true, true, true, true, true, true, true] rfl rfl (by as_aux_lemma => kernel_rfl) (fun _ _ _ h => h) (Or.inl ⟨by rfl, ?_⟩) ?_ ?_
  rotate_left
  · intro w'
    go_simp
    with_reducible rfl
  rotate_left
  · simp only [Act.put, List.setIfInBounds_toArray, List.set_cons_zero, List.set_cons_succ, i64_w, i32_w]
    rfl
  refine done_ (by as_aux_lemma => kernel_rfl) ?_
  have m0 : IntKind.i64.wrap (0 - (ch : Int)) = 0 - (ch : Int) := IntWalk.i64_in _ (by omega)
  go_upto_region 6 with (fail)
  have HBZ := Aside0.mk (below_step HB2.out (below_drew1 (Below.refl w2.heap.size w2)))
  have HFZ := Aside0.mk (HF2.out.below (below_drew1 (Below.refl w2.heap.size w2)))
  have hc1 := blk_cell HFZ.out.blk 1
  go_wp2
  go_loopw [8, 9, 10] (fun v8 v9 v10 wr => v8 = .int .i64 0 ∧ v9 = .int .i64 0 ∧ v10 = .int .i64 (-1) ∧ Aside0 (Below w.heap.size w wr) ∧ Aside0 (Fin wr F bc bs base s ch gd lz p)) (fun _ _ _ _ => 0)
  case atStart => exact ⟨rfl, rfl, rfl, HBZ, HFZ⟩
  case round =>
    obtain ⟨rfl, rfl, rfl, HBR, HFR⟩ := hrel
    have hr1 := blk_cell HFR.out.blk 1
    by_cases hz : ch = 0
    · subst hz
      go_wp2
      first | go_ret2 | go_ret
      exact ⟨rfl, HBR.out⟩
    · go_wp2
      first | go_ret2 | go_ret
      exact ⟨rfl, HBR.out⟩
theorem go_far {s : ByteArray} {p i : Nat} {good l d : Int} {r : List Int} (h : 32768 < (p : Int) - i) : bestGo s p good ((i : Int) :: r) l d = (l, d) := by unfold bestGo; rw [if_pos h]
theorem go_take {s : ByteArray} {p i : Nat} {good l d : Int} {r : List Int} (h : ¬ 32768 < (p : Int) - i) (h2 : l < (sameN s i p : Int)) : bestGo s p good ((i : Int) :: r) l d = if good ≤ (sameN s i p : Int) then ((sameN s i p : Int), (p : Int) - i) else bestGo s p good r (sameN s i p) ((p : Int) - i) := by rw [bestGo, if_neg h, Int.toNat_natCast, if_pos h2]
theorem go_keep {s : ByteArray} {p i : Nat} {good l d : Int} {r : List Int} (h : ¬ 32768 < (p : Int) - i) (h2 : ¬ l < (sameN s i p : Int)) : bestGo s p good ((i : Int) :: r) l d = if good ≤ l then (l, d) else bestGo s p good r l d := by rw [bestGo, if_neg h, Int.toNat_natCast, if_neg h2]
theorem pair_eq {a b c d : Int} (h : (a, b) = (c, d)) : a = c ∧ b = d := by injection h with h1 h2; exact ⟨h1, h2⟩
set_option maxHeartbeats 8000000 in
set_option maxRecDepth 100000 in
theorem best_some (F bc bs base : Nat) (s : ByteArray) (ch : Nat) (gd : Int) (lz : Bool) (p : Nat) (w : World) (hp : p ≤ 2000000) (hs : s.size ≤ 1048576) (hch : ch ≤ 5000) (hF : Fin w F bc bs base s ch gd lz p) (h3 : p + 3 ≤ s.size) (x y z : Int)
    (hX : encT (tri s p) = .agg #[.int .u8 x, .int .u8 y, .int .u8 z]) (c : Nat) (hc : cnt s (tri s p) p = c) (len cap gr : Nat) (zs : List Int) (hzs : posL s (tri s p) p = zs) (hcl : c ≤ len ∧ len ≤ cap ∧ cap ≤ maxLen) (hgr : gr < w.heap.size) (hcells : ∀ (j : Nat) (h : j < zs.length), w.cell? ⟨gr, j, none⟩ = some (.int .i64 zs[j])) (rl rd : Int) (hR : bestGo s p gd (lastOf zs ch) 0 0 = (rl, rd))
    (hrun : ∀ u : World, u.heap[bc]? = w.heap[bc]? → (Instr.lookup 37 (.map (some bc)) (encT (tri s p)) false).run Try.prog u = .ok (.slice (some ⟨gr, 0, none⟩) len cap) u) :
    Calls Try.prog 21 #[.pointer (some ⟨F, 0, none⟩), .int .i64 (p : Int)] w fun e w' => e = .returned (.tuple #[.int .i64 rl, .int .i64 rd]) ∧ Below w.heap.size w w' := by
  have hc0 := blk_cell hF.blk 0
  have hbc : bc < w.heap.size := by obtain ⟨es, clock, hm, _⟩ := hF.chains; exact (Array.getElem?_eq_some_iff.1 hm).1
  have hT := fun u => triple_calls s p u (by omega) (by omega)
  have hL := fun u h => look_seen s p p bs (tri s p) u (seenG s p) h (fun _ => rfl)
  rw [hX] at hT hrun
  rw [hX, hc] at hL
  have hzl : zs.length = c := by rw [← hzs, posL_len, hc]
  have hmem : ∀ (j : Nat) (h : j < zs.length), ∃ i : Nat, zs[j] = (i : Int) ∧ i < p := fun j h => by
    obtain ⟨i, a, b, _⟩ := pos_mem s (tri s p) p zs[j] (by rw [hzs]; exact List.getElem_mem h)
    exact ⟨i, a, b⟩
  obtain ⟨lo, hlo⟩ : ∃ lo, lo = c - ch := ⟨_, rfl⟩
  have hR0 : bestGo s p gd (((zs.take c).drop lo).reverse) 0 0 = (rl, rd) := by
    rw [← hR]; unfold lastOf
    rw [Int.toNat_natCast, hzl, ← hlo, List.take_of_length_le (by omega)]
  have hcp : c ≤ p := by rw [← hc]; exact cnt_le s _ p
  have HGO := Aside0.mk hR0
  have HMEM := Aside0.mk hmem
  have HCELLS := Aside0.mk hcells
  have HZL := Aside0.mk hzl
  have HPS := Aside0.mk (And.intro hs h3)
  have hb0 : (c : Int) ≤ (cap : Int) := by omega
  have hb1 : (0 : Int) ≤ (c : Int) := by omega
  have hb2 : (cap : Int) ≤ 9223372036854775807 := by have := hcl.2.2; unfold maxLen at this; omega
  clear hR0 hR hmem hcells hzl hzs hcl
  have d3 : decide ((s.size : Int) < (p : Int) + 3) = false := decide_eq_false (by omega)
  have d3n : decide (s.size < p + 3) = false := decide_eq_false (by omega)
  have HT := Aside0.mk hT
  have HLS := Aside0.mk hL
  have HLC := Aside0.mk hrun
  have HF0 := Aside0.mk hF
  clear hT hL hrun hF hX hc h3 hs
  go_enter Try.func21, Try.ntmps21
  go_upto_region 4 with (go_at_call 18; (with_reducible refine (HT.out _).mono ?_); rintro e w1 ⟨rfl, hb⟩; have HB1 := Aside0.mk hb; have HF1 := Aside0.mk (HF0.out.below hb); clear hb)
  have HB2 := Aside0.mk (below_alloc HB1.out (.cells #[.int .u8 x, .int .u8 y, .int .u8 z] 40))
  have HF2 := Aside0.mk (HF1.out.below (below_alloc (Below.refl w1.heap.size w1) (.cells #[.int .u8 x, .int .u8 y, .int .u8 z] 40)))
  have HT2 := Aside0.mk (heap_alloc_new w1 (.cells #[.int .u8 x, .int .u8 y, .int .u8 z] 40))
  generalize w1.alloc (.cells #[.int .u8 x, .int .u8 y, .int .u8 z] 40) = w2 at HB2 HF2 HT2 ⊢
  generalize w1.heap.size = g6 at HT2 ⊢
  have HBC := Aside0.mk (show w2.drew.heap[bc]? = w.heap[bc]? from HB2.out.block bc hbc)
  refine start_ (n := 14) (S := fun w' => w'.cell? ⟨F, 4, none⟩ = some (.map (some bc)) ∧ w'.cell? ⟨F, 5, none⟩ = some (.map (some bs)) ∧ w'.cell? ⟨g6, 0, none⟩ = some (.int .u8 x) ∧ w'.cell? ⟨g6, 1, none⟩ = some (.int .u8 y) ∧ w'.cell? ⟨g6, 2, none⟩ = some (.int .u8 z) ∧ (Instr.lookup 37 (.map (some bc)) (.agg #[.int .u8 x, .int .u8 y, .int .u8 z]) false).run Try.prog w' = .ok (.slice (some ⟨gr, 0, none⟩) len cap) w' ∧ (Instr.lookup 55 (.map (some bs)) (.agg #[.int .u8 x, .int .u8 y, .int .u8 z]) false).run Try.prog w' = .ok (.int .i64 (c : Int)) w') (ds := []) #[false, false, false, false, false, false, false, false, false, false, false, false, false, false] (by as_aux_lemma => kernel_rfl) rfl rfl ⟨(blk_cell HF2.out.blk 4), (blk_cell HF2.out.blk 5), (blk_cell HT2.out 0), (blk_cell HT2.out 1), (blk_cell HT2.out 2), (HLC.out w2.drew HBC.out), (HLS.out w2.drew (OwnsV.move HF2.out.seen rfl))⟩ (fun hHeld => ?_)
  refine pure_ (i := 0) (N := some 26) (v := ?_) (a' := ?_) #[true, false, false, false, false, false, false, false, false, false, false, false, false, false] rfl rfl (by as_aux_lemma => kernel_rfl) (fun _ _ _ h => h) (Or.inl ⟨by rfl, ?_⟩) ?_ ?_
  rotate_left
  · intro w'
    go_simp
    with_reducible rfl
  rotate_left
  · simp only [Act.put, List.setIfInBounds_toArray, List.set_cons_zero, List.set_cons_succ, i64_w, i32_w]
    rfl
  refine pure_ (i := 1) (N := some 27) (v := ?_) (a' := ?_) #[true, true, false, false, false, false, false, false, false, false, false, false, false, false] rfl rfl (by as_aux_lemma => kernel_rfl) (fun _ _ _ h => h) (Or.inl ⟨by rfl, ?_⟩) ?_ ?_
  rotate_left
  · intro w'
    go_simp
    with_reducible rfl
  rotate_left
  · simp only [Act.put, List.setIfInBounds_toArray, List.set_cons_zero, List.set_cons_succ, i64_w, i32_w]
    rfl
  refine pure_ (i := 2) (N := some 28) (v := ?_) (a' := ?_) #[true, true, true, false, false, false, false, false, false, false, false, false, false, false] rfl rfl (by as_aux_lemma => kernel_rfl) (fun _ _ _ h => h) (Or.inl ⟨by rfl, ?_⟩) ?_ ?_
  rotate_left
  · intro w'
    go_simp
    with_reducible rfl
  rotate_left
  · simp only [Act.put, List.setIfInBounds_toArray, List.set_cons_zero, List.set_cons_succ, i64_w, i32_w]
    rfl
  refine pure_ (i := 6) (N := some 32) (v := ?_) (a' := ?_) #[true, true, true, false, false, false, true, false, false, false, false, false, false, false] rfl rfl (by as_aux_lemma => kernel_rfl) (fun _ _ _ h => h) (Or.inl ⟨by rfl, ?_⟩) ?_ ?_
  rotate_left
  · intro w'
    go_simp
    with_reducible rfl
  rotate_left
  · simp only [Act.put, List.setIfInBounds_toArray, List.set_cons_zero, List.set_cons_succ, i64_w, i32_w]
    rfl
  refine pure_ (i := 7) (N := some 33) (v := ?_) (a' := ?_) #[true, true, true, false, false, false, true, true, false, false, false, false, false, false] rfl rfl (by as_aux_lemma => kernel_rfl) (fun _ _ _ h => h) (Or.inl ⟨by rfl, ?_⟩) ?_ ?_
  rotate_left
  · intro w'
    go_simp
    with_reducible rfl
  rotate_left
  · simp only [Act.put, List.setIfInBounds_toArray, List.set_cons_zero, List.set_cons_succ, i64_w, i32_w]
    rfl
  refine pure_ (i := 8) (N := some 34) (v := ?_) (a' := ?_) #[true, true, true, false, false, false, true, true, true, false, false, false, false, false] rfl rfl (by as_aux_lemma => kernel_rfl) (fun _ _ _ h => h) (Or.inl ⟨by rfl, ?_⟩) ?_ ?_
  rotate_left
  · intro w'
    go_simp
    with_reducible rfl
  rotate_left
  · simp only [Act.put, List.setIfInBounds_toArray, List.set_cons_zero, List.set_cons_succ, i64_w, i32_w]
    rfl
  refine take_ (i := 3) (N := some 29) (v := ?_) (a' := ?_) #[true, true, true, true, false, false, true, true, true, false, false, false, false, false] rfl rfl (by as_aux_lemma => kernel_rfl) (fun _ _ _ h => h) (Or.inl ⟨by rfl, ?_⟩) hHeld ?_ ?_
  rotate_left
  · rintro w' ⟨s0, s1, s2, s3, s4, s5, s6⟩
    go_simp
    with_reducible rfl
  rotate_left
  · simp only [Act.put, List.setIfInBounds_toArray, List.set_cons_zero, List.set_cons_succ, i64_w, i32_w]
    rfl
  refine take_ (i := 4) (N := some 30) (v := ?_) (a' := ?_) #[true, true, true, true, true, false, true, true, true, false, false, false, false, false] rfl rfl (by as_aux_lemma => kernel_rfl) (fun _ _ _ h => h) (Or.inl ⟨by rfl, ?_⟩) hHeld ?_ ?_
  rotate_left
  · rintro w' ⟨s0, s1, s2, s3, s4, s5, s6⟩
    go_simp
    with_reducible rfl
  rotate_left
  · simp only [Act.put, List.setIfInBounds_toArray, List.set_cons_zero, List.set_cons_succ, i64_w, i32_w]
    rfl
  refine take_ (i := 5) (N := some 31) (v := ?_) (a' := ?_) #[true, true, true, true, true, true, true, true, true, false, false, false, false, false] rfl rfl (by as_aux_lemma => kernel_rfl) (fun _ _ _ h => h) (Or.inl ⟨by rfl, ?_⟩) hHeld ?_ ?_
  rotate_left
  · rintro w' ⟨s0, s1, s2, s3, s4, s5, s6⟩
    go_simp
    with_reducible rfl
  rotate_left
  · simp only [Act.put, List.setIfInBounds_toArray, List.set_cons_zero, List.set_cons_succ, i64_w, i32_w]
    rfl
  refine take_ (i := 9) (N := some 35) (v := ?_) (a' := ?_) #[true, true, true, true, true, true, true, true, true, true, false, false, false, false] rfl rfl (by as_aux_lemma => kernel_rfl) (fun _ _ _ h => h) (Or.inl ⟨by rfl, ?_⟩) hHeld ?_ ?_
  rotate_left
  · rintro w' ⟨s0, s1, s2, s3, s4, s5, s6⟩
    go_simp
    with_reducible rfl
  rotate_left
  · simp only [Act.put, List.setIfInBounds_toArray, List.set_cons_zero, List.set_cons_succ, i64_w, i32_w]
    rfl
  refine take_ (i := 10) (N := some 36) (v := ?_) (a' := ?_) #[true, true, true, true, true, true, true, true, true, true, true, false, false, false] rfl rfl (by as_aux_lemma => kernel_rfl) (fun _ _ _ h => h) (Or.inl ⟨by rfl, ?_⟩) hHeld ?_ ?_
  rotate_left
  · rintro w' ⟨s0, s1, s2, s3, s4, s5, s6⟩
    go_simp
    with_reducible rfl
  rotate_left
  · simp only [Act.put, List.setIfInBounds_toArray, List.set_cons_zero, List.set_cons_succ, i64_w, i32_w]
    rfl
  refine take_ (i := 11) (N := some 37) (v := ?_) (a' := ?_) #[true, true, true, true, true, true, true, true, true, true, true, true, false, false] rfl rfl (by as_aux_lemma => kernel_rfl) (fun _ _ _ h => h) (Or.inl ⟨by rfl, ?_⟩) hHeld ?_ ?_
  rotate_left
  · rintro w' ⟨s0, s1, s2, s3, s4, s5, s6⟩
    go_simp
    with_reducible rfl
  rotate_left
  · simp only [Act.put, List.setIfInBounds_toArray, List.set_cons_zero, List.set_cons_succ, i64_w, i32_w]
    rfl
  refine pure_ (i := 12) (N := some 38) (v := ?_) (a' := ?_) #[true, true, true, true, true, true, true, true, true, true, true, true, true, false] rfl rfl (by as_aux_lemma => kernel_rfl) (fun _ _ _ h => h) (Or.inl ⟨by rfl, ?_⟩) ?_ ?_
  rotate_left
  · intro w'
    go_simp
    with_reducible rfl
  rotate_left
  · simp only [Act.put, List.setIfInBounds_toArray, List.set_cons_zero, List.set_cons_succ, i64_w, i32_w]
    rfl
  refine pure_ (i := 13) (N := some 7) (v := ?_) (a' := ?_) #[true, true, true, true, true, true, true, true, true, true, true, true, true, true] rfl rfl (by as_aux_lemma => kernel_rfl) (fun _ _ _ h => h) (Or.inl ⟨by rfl, ?_⟩) ?_ ?_
  rotate_left
  · intro w'
    go_simp
    with_reducible rfl
  rotate_left
  · simp only [Act.put, List.setIfInBounds_toArray, List.set_cons_zero, List.set_cons_succ, i64_w, i32_w]
    rfl
  refine done_ (by as_aux_lemma => kernel_rfl) ?_
  have HBZ := Aside0.mk (below_step HB2.out (below_drew1 (Below.refl w2.heap.size w2)))
  have HFZ := Aside0.mk (HF2.out.below (below_drew1 (Below.refl w2.heap.size w2)))
  go_wp2
  have HLO := Aside0.mk hlo
  clear hlo
  by_cases hcc : ch < c
  · have HLO2 := Aside0.mk (show (lo : Int) = (c : Int) - (ch : Int) by have := HLO.out; omega)
    have hl0 : lo ≤ c := by have := HLO.out; omega
    go_loopw [8, 9, 10] (fun v8 v9 v10 wr => ∃ (K : Nat) (l d xx : Int), v8 = .int .i64 l ∧ v9 = .int .i64 d ∧ v10 = .int .i64 xx ∧ Aside0 (xx = (K : Int) - 1) ∧ lo ≤ K ∧ K ≤ c ∧ (0 ≤ l ∧ l ≤ 258) ∧ Aside0 (bestGo s p gd (((zs.take K).drop lo).reverse) l d = (rl, rd)) ∧ Aside0 (Below w.heap.size w wr) ∧ Aside0 (Fin wr F bc bs base s ch gd lz p))
      (fun _ _ v10 _ => (intOf v10 + 1).toNat)
    case atStart => exact ⟨c, 0, 0, _, rfl, rfl, rfl, ⟨rfl⟩, hl0, Nat.le_refl _, ⟨by omega, by omega⟩, HGO, HBZ, HFZ⟩
    case round =>
      clear HGO HBZ HFZ
      obtain ⟨K, l, d, xx, rfl, rfl, rfl, HXX, hK1, hK2, hl, HG, HB, HFR⟩ := hrel
      have hr1 := blk_cell HFR.out.blk 1
      by_cases hK : lo < K
      · obtain ⟨J, rfl⟩ : ∃ J, K = J + 1 := ⟨K - 1, by omega⟩
        obtain rfl : xx = (J : Int) := by have := HXX.out; omega
        clear HXX
        have dch : decide ((ch : Int) < (c : Int)) = true := decide_eq_true (by omega)
        have dK : decide ((c : Int) - (ch : Int) ≤ (J : Int)) = true := decide_eq_true (by have := HLO2.out; omega)
        have e0 : (0 : Int) < (c : Int) - (ch : Int) := by omega
        have hr2 := blk_cell HFR.out.blk 2
        have hJz : J < zs.length := by have := HZL.out; omega
        obtain ⟨i, hi, hip⟩ := HMEM.out J hJz
        have hz := HCELLS.out J hJz
        rw [hi] at hz
        have hg := HG.out
        rw [rem_step zs _ (J + 1) hK (by omega)] at hg
        simp only [Nat.add_sub_cancel] at hg
        rw [hi] at hg
        have HZ := Aside0.mk hz
        have hzr := pw_cell_below HB.out hz
        obtain ⟨rest, hrest⟩ : ∃ rest, ((zs.take J).drop lo).reverse = rest := ⟨_, rfl⟩
        rw [hrest] at hg
        have HREST := Aside0.mk hrest
        have HGG := Aside0.mk hg
        have kpi : IntKind.i64.wrap ((p : Int) - (i : Int)) = (p : Int) - (i : Int) := IntWalk.i64_in _ (by omega)
        have j0 : (0 : Int) ≤ (J : Int) := by omega
        have j1 : (J : Int) < (c : Int) := by omega
        clear hz hg hi hrest HG
        by_cases hw : 32768 < (p : Int) - i
        · have dw : decide ((32768 : Int) < (p : Int) - (i : Int)) = true := decide_eq_true hw
          obtain ⟨rfl, rfl⟩ := pair_eq ((go_far hw).symm.trans HGG.out)
          clear hw
          go_wp2
          first | go_ret2 | go_ret
          exact ⟨rfl, HB.out⟩
        have dw : decide ((32768 : Int) < (p : Int) - (i : Int)) = false := decide_eq_false hw
        have hnf := same_facts s i p 258 0 (by have := HPS.out; omega)
        obtain ⟨n, hn⟩ : ∃ n, sameN s i p = n := ⟨_, rfl⟩
        have hn2 : sameGo s i p 258 0 = n := hn
        rw [hn2] at hnf
        obtain ⟨_, hn258, _, _⟩ := hnf
        have HSM := Aside0.mk (fun u hu => same_calls F s i p u HPS.out.1 (Nat.le_of_lt hip) (by have := HPS.out; omega) hu)
        have hsm := HSM.out
        rw [hn] at hsm
        have HS := Aside0.mk hsm
        have HHW := Aside0.mk hw
        clear HSM hsm hn2 hw
        have HN := Aside0.mk hn
        clear hn
        by_cases hln : l < (n : Int)
        · have dln : decide (l < (n : Int)) = true := decide_eq_true hln
          have hgg := HGG.out
          rw [go_take HHW.out (by rw [HN.out]; exact hln), HN.out] at hgg
          have HG2 := Aside0.mk hgg
          clear hgg HGG
          by_cases hgn : gd ≤ (n : Int)
          · have dgn : decide (gd ≤ (n : Int)) = true := decide_eq_true hgn
            have hpe := HG2.out
            rw [if_pos hgn] at hpe
            obtain ⟨rfl, rfl⟩ := pair_eq hpe
            clear hpe HG2
            clear hgn hln
            go_upto_region 12 with (go_at_call 23; (with_reducible refine (HS.out _ (blk_cell HFR.out.blk 0)).mono ?_); rintro e wx ⟨rfl, hb⟩; have HBX := Aside0.mk (below_step HB.out hb); have HFX := Aside0.mk (HFR.out.below hb); have hzx := pw_cell_below (below_step HB.out hb) HZ.out; clear hb)
            go_quiet (fail)
            have hq2 := fun m : Nat => (blk_cell (blk_drewN HFX.out.blk m) 2)
            go_wp2
            first | go_ret2 | go_ret
            exact ⟨rfl, pw_below_drewN HBX.out _⟩
          · have dgn : decide (gd ≤ (n : Int)) = false := decide_eq_false hgn
            have hgg := HG2.out
            rw [if_neg hgn] at hgg
            have HG3 := Aside0.mk hgg
            clear hgn hln hgg HG2
            go_upto_region 12 with (go_at_call 23; (with_reducible refine (HS.out _ (blk_cell HFR.out.blk 0)).mono ?_); rintro e wx ⟨rfl, hb⟩; have HBX := Aside0.mk (below_step HB.out hb); have HFX := Aside0.mk (HFR.out.below hb); have hzx := pw_cell_below (below_step HB.out hb) HZ.out; clear hb)
            go_quiet (fail)
            have hq2 := fun m : Nat => (blk_cell (blk_drewN HFX.out.blk m) 2)
            go_wp2
            go_roundw
            case rel => exact ⟨J, (n : Int), (p : Int) - i, (J : Int) - 1, rfl, rfl, rfl, ⟨rfl⟩, by omega, by omega, ⟨by omega, by omega⟩, ⟨by rw [HREST.out]; exact HG3.out⟩, ⟨pw_below_drewN HBX.out _⟩, ⟨HFX.out.below (pw_below_drewN (Below.refl _ _) _)⟩⟩
            case measure => simp [intOf] <;> omega
        · have dln : decide (l < (n : Int)) = false := decide_eq_false hln
          have hgg := HGG.out
          rw [go_keep HHW.out (by rw [HN.out]; exact hln)] at hgg
          have HG2 := Aside0.mk hgg
          clear hgg HGG
          by_cases hgn : gd ≤ l
          · have dgn : decide (gd ≤ l) = true := decide_eq_true hgn
            have hpe := HG2.out
            rw [if_pos hgn] at hpe
            obtain ⟨rfl, rfl⟩ := pair_eq hpe
            clear hpe HG2
            clear hgn hln
            go_upto_region 13 with (go_at_call 23; (with_reducible refine (HS.out _ (blk_cell HFR.out.blk 0)).mono ?_); rintro e wx ⟨rfl, hb⟩; have HBX := Aside0.mk (below_step HB.out hb); have HFX := Aside0.mk (HFR.out.below hb); clear hb)
            have hq2 := (blk_cell HFX.out.blk 2)
            go_wp2
            first | go_ret2 | go_ret
            exact ⟨rfl, HBX.out⟩
          · have dgn : decide (gd ≤ l) = false := decide_eq_false hgn
            have hgg := HG2.out
            rw [if_neg hgn] at hgg
            have HG3 := Aside0.mk hgg
            clear hgn hln hgg HG2
            go_upto_region 13 with (go_at_call 23; (with_reducible refine (HS.out _ (blk_cell HFR.out.blk 0)).mono ?_); rintro e wx ⟨rfl, hb⟩; have HBX := Aside0.mk (below_step HB.out hb); have HFX := Aside0.mk (HFR.out.below hb); clear hb)
            have hq2 := (blk_cell HFX.out.blk 2)
            go_wp2
            go_roundw
            case rel => exact ⟨J, l, d, (J : Int) - 1, rfl, rfl, rfl, ⟨rfl⟩, by omega, by omega, hl, ⟨by rw [HREST.out]; exact HG3.out⟩, HBX, HFX⟩
            case measure => simp [intOf] <;> omega
      · obtain rfl : lo = K := by omega
        obtain rfl : xx = ((lo : Int) - 1) := by have := HXX.out; omega
        clear HXX
        have hg := HG.out
        rw [rem_none, bestGo] at hg
        obtain ⟨rfl, rfl⟩ := pair_eq hg
        clear hg HG
        have dch : decide ((ch : Int) < (c : Int)) = true := decide_eq_true (by omega)
        have dK : decide ((c : Int) - (ch : Int) ≤ (lo : Int) - 1) = false := decide_eq_false (by have := HLO2.out; omega)
        have e0 : (0 : Int) < (c : Int) - (ch : Int) := by omega
        go_wp2
        first | go_ret2 | go_ret
        exact ⟨rfl, HB.out⟩
  · have h0 := HLO.out
    obtain rfl : lo = 0 := by omega
    clear h0
    have hl0 : 0 ≤ c := Nat.zero_le c
    go_loopw [8, 9, 10] (fun v8 v9 v10 wr => ∃ (K : Nat) (l d xx : Int), v8 = .int .i64 l ∧ v9 = .int .i64 d ∧ v10 = .int .i64 xx ∧ Aside0 (xx = (K : Int) - 1) ∧ 0 ≤ K ∧ K ≤ c ∧ (0 ≤ l ∧ l ≤ 258) ∧ Aside0 (bestGo s p gd (((zs.take K).drop 0).reverse) l d = (rl, rd)) ∧ Aside0 (Below w.heap.size w wr) ∧ Aside0 (Fin wr F bc bs base s ch gd lz p))
      (fun _ _ v10 _ => (intOf v10 + 1).toNat)
    case atStart => exact ⟨c, 0, 0, _, rfl, rfl, rfl, ⟨rfl⟩, hl0, Nat.le_refl _, ⟨by omega, by omega⟩, HGO, HBZ, HFZ⟩
    case round =>
      clear HGO HBZ HFZ
      obtain ⟨K, l, d, xx, rfl, rfl, rfl, HXX, hK1, hK2, hl, HG, HB, HFR⟩ := hrel
      have hr1 := blk_cell HFR.out.blk 1
      by_cases hK : 0 < K
      · obtain ⟨J, rfl⟩ : ∃ J, K = J + 1 := ⟨K - 1, by omega⟩
        obtain rfl : xx = (J : Int) := by have := HXX.out; omega
        clear HXX
        have dch : decide ((ch : Int) < (c : Int)) = false := decide_eq_false (by omega)
        have dK : decide ((0 : Int) ≤ (J : Int)) = true := decide_eq_true (by omega)
        have hr2 := blk_cell HFR.out.blk 2
        have hJz : J < zs.length := by have := HZL.out; omega
        obtain ⟨i, hi, hip⟩ := HMEM.out J hJz
        have hz := HCELLS.out J hJz
        rw [hi] at hz
        have hg := HG.out
        rw [rem_step zs _ (J + 1) hK (by omega)] at hg
        simp only [Nat.add_sub_cancel] at hg
        rw [hi] at hg
        have HZ := Aside0.mk hz
        have hzr := pw_cell_below HB.out hz
        obtain ⟨rest, hrest⟩ : ∃ rest, ((zs.take J).drop 0).reverse = rest := ⟨_, rfl⟩
        rw [hrest] at hg
        have HREST := Aside0.mk hrest
        have HGG := Aside0.mk hg
        have kpi : IntKind.i64.wrap ((p : Int) - (i : Int)) = (p : Int) - (i : Int) := IntWalk.i64_in _ (by omega)
        have j0 : (0 : Int) ≤ (J : Int) := by omega
        have j1 : (J : Int) < (c : Int) := by omega
        clear hz hg hi hrest HG
        by_cases hw : 32768 < (p : Int) - i
        · have dw : decide ((32768 : Int) < (p : Int) - (i : Int)) = true := decide_eq_true hw
          obtain ⟨rfl, rfl⟩ := pair_eq ((go_far hw).symm.trans HGG.out)
          clear hw
          go_wp2
          first | go_ret2 | go_ret
          exact ⟨rfl, HB.out⟩
        have dw : decide ((32768 : Int) < (p : Int) - (i : Int)) = false := decide_eq_false hw
        have hnf := same_facts s i p 258 0 (by have := HPS.out; omega)
        obtain ⟨n, hn⟩ : ∃ n, sameN s i p = n := ⟨_, rfl⟩
        have hn2 : sameGo s i p 258 0 = n := hn
        rw [hn2] at hnf
        obtain ⟨_, hn258, _, _⟩ := hnf
        have HSM := Aside0.mk (fun u hu => same_calls F s i p u HPS.out.1 (Nat.le_of_lt hip) (by have := HPS.out; omega) hu)
        have hsm := HSM.out
        rw [hn] at hsm
        have HS := Aside0.mk hsm
        have HHW := Aside0.mk hw
        clear HSM hsm hn2 hw
        have HN := Aside0.mk hn
        clear hn
        by_cases hln : l < (n : Int)
        · have dln : decide (l < (n : Int)) = true := decide_eq_true hln
          have hgg := HGG.out
          rw [go_take HHW.out (by rw [HN.out]; exact hln), HN.out] at hgg
          have HG2 := Aside0.mk hgg
          clear hgg HGG
          by_cases hgn : gd ≤ (n : Int)
          · have dgn : decide (gd ≤ (n : Int)) = true := decide_eq_true hgn
            have hpe := HG2.out
            rw [if_pos hgn] at hpe
            obtain ⟨rfl, rfl⟩ := pair_eq hpe
            clear hpe HG2
            clear hgn hln
            go_upto_region 12 with (go_at_call 23; (with_reducible refine (HS.out _ (blk_cell HFR.out.blk 0)).mono ?_); rintro e wx ⟨rfl, hb⟩; have HBX := Aside0.mk (below_step HB.out hb); have HFX := Aside0.mk (HFR.out.below hb); have hzx := pw_cell_below (below_step HB.out hb) HZ.out; clear hb)
            go_quiet (fail)
            have hq2 := fun m : Nat => (blk_cell (blk_drewN HFX.out.blk m) 2)
            go_wp2
            first | go_ret2 | go_ret
            exact ⟨rfl, pw_below_drewN HBX.out _⟩
          · have dgn : decide (gd ≤ (n : Int)) = false := decide_eq_false hgn
            have hgg := HG2.out
            rw [if_neg hgn] at hgg
            have HG3 := Aside0.mk hgg
            clear hgn hln hgg HG2
            go_upto_region 12 with (go_at_call 23; (with_reducible refine (HS.out _ (blk_cell HFR.out.blk 0)).mono ?_); rintro e wx ⟨rfl, hb⟩; have HBX := Aside0.mk (below_step HB.out hb); have HFX := Aside0.mk (HFR.out.below hb); have hzx := pw_cell_below (below_step HB.out hb) HZ.out; clear hb)
            go_quiet (fail)
            have hq2 := fun m : Nat => (blk_cell (blk_drewN HFX.out.blk m) 2)
            go_wp2
            go_roundw
            case rel => exact ⟨J, (n : Int), (p : Int) - i, (J : Int) - 1, rfl, rfl, rfl, ⟨rfl⟩, by omega, by omega, ⟨by omega, by omega⟩, ⟨by rw [HREST.out]; exact HG3.out⟩, ⟨pw_below_drewN HBX.out _⟩, ⟨HFX.out.below (pw_below_drewN (Below.refl _ _) _)⟩⟩
            case measure => simp [intOf] <;> omega
        · have dln : decide (l < (n : Int)) = false := decide_eq_false hln
          have hgg := HGG.out
          rw [go_keep HHW.out (by rw [HN.out]; exact hln)] at hgg
          have HG2 := Aside0.mk hgg
          clear hgg HGG
          by_cases hgn : gd ≤ l
          · have dgn : decide (gd ≤ l) = true := decide_eq_true hgn
            have hpe := HG2.out
            rw [if_pos hgn] at hpe
            obtain ⟨rfl, rfl⟩ := pair_eq hpe
            clear hpe HG2
            clear hgn hln
            go_upto_region 13 with (go_at_call 23; (with_reducible refine (HS.out _ (blk_cell HFR.out.blk 0)).mono ?_); rintro e wx ⟨rfl, hb⟩; have HBX := Aside0.mk (below_step HB.out hb); have HFX := Aside0.mk (HFR.out.below hb); clear hb)
            have hq2 := (blk_cell HFX.out.blk 2)
            go_wp2
            first | go_ret2 | go_ret
            exact ⟨rfl, HBX.out⟩
          · have dgn : decide (gd ≤ l) = false := decide_eq_false hgn
            have hgg := HG2.out
            rw [if_neg hgn] at hgg
            have HG3 := Aside0.mk hgg
            clear hgn hln hgg HG2
            go_upto_region 13 with (go_at_call 23; (with_reducible refine (HS.out _ (blk_cell HFR.out.blk 0)).mono ?_); rintro e wx ⟨rfl, hb⟩; have HBX := Aside0.mk (below_step HB.out hb); have HFX := Aside0.mk (HFR.out.below hb); clear hb)
            have hq2 := (blk_cell HFX.out.blk 2)
            go_wp2
            go_roundw
            case rel => exact ⟨J, l, d, (J : Int) - 1, rfl, rfl, rfl, ⟨rfl⟩, by omega, by omega, hl, ⟨by rw [HREST.out]; exact HG3.out⟩, HBX, HFX⟩
            case measure => simp [intOf] <;> omega
      · obtain rfl : 0 = K := by omega
        obtain rfl : xx = (-1) := by have := HXX.out; omega
        clear HXX
        have hg := HG.out
        rw [rem_none, bestGo] at hg
        obtain ⟨rfl, rfl⟩ := pair_eq hg
        clear hg HG
        have dch : decide ((ch : Int) < (c : Int)) = false := decide_eq_false (by omega)
        go_wp2
        first | go_ret2 | go_ret
        exact ⟨rfl, HB.out⟩
end Go.Proofs.Ytgpmhdefpbmhjaa.Fi
