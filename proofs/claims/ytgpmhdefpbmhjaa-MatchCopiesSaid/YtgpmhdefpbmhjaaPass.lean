/- (*finder).pass: a place is behind: the walk. Printed by genpass.py. -/
import Derived.Test.YtgpmhdefpbmhjaaSame
namespace Go.Proofs.Ytgpmhdefpbmhjaa.Fi
set_option linter.unusedVariables false
set_option linter.unusedSimpArgs false
open Go Go.RowKit Go.Proofs.Ytgpmhdefpbmhjaa.P Go.Proofs.Ytgpmhdefpbmhjaa.B Go.Proofs.Ytgpmhdefpbmhjaa.D7 Go.Proofs.Ytgpmhdefpbmhjaa.Ch Go.Proofs.Ytgpmhdefpbmhjaa.MapG Go.Proofs.Ytgpmhdefpbmhjaa.MapV Go.Proofs.YtgpmhdefpbmhjaaW.PrintWords Go.Proofs.YtgpmhdefpbmhjaaW.PrintLast Go.Proofs.YtgpmhdefpbmhjaaW.PrintMore
theorem zeroI (u : World) : (zeroValue 3).run Try.prog u = .ok (.int .i64 0) u := by kernel_rfl
theorem look_seen (s : ByteArray) (p n : Nat) (bs : Nat) (t : Tri) (u : World) (g : Tri → Option Value) (h : OwnsV encT u bs g) (hg : ∀ t, (g t).getD (.int .i64 0) = (seenG s n t).getD (.int .i64 0)) : (Instr.lookup 55 (.map (some bs)) (encT t) false).run Try.prog u = .ok (.int .i64 (cnt s t n : Int)) u := by
  have := lookup_run (P := Try.prog) (t := 55) (ok := false) keyed Try.underlying55 zeroI encT_inj key_ok h t
  rw [this, hg, seen_get]
  rfl
theorem grown_then {w0 w1 w2 : World} {row : Option Nat} (h : w0.grownBy w1 row) (k : w1.grownBy w2 row) : w0.grownBy w2 row :=
  ⟨k.os.trans h.os, k.tape.trans h.tape, k.output.trans h.output, Nat.le_trans h.size k.size, fun i hi hne => (k.block i (Nat.lt_of_lt_of_le hi h.size) hne).trans (h.block i hi hne)⟩
set_option maxHeartbeats 8000000 in
set_option maxRecDepth 100000 in
theorem pass_calls (F bs : Nat) (s : ByteArray) (p : Nat) (q1 q2 q3 q4 : Value) (w : World) (hs : s.size ≤ 1048576) (hp : p ≤ 2000000) (hk : w.heap[F]? = some (.cells #[.string s, q1, q2, q3, q4, .map (some bs)] 57 (0, 0))) (ho : OwnsV encT w bs (seenG s p)) :
    Calls Try.prog 22 #[.pointer (some ⟨F, 0, none⟩), .int .i64 (p : Int)] w fun e w' => e = .returned (.tuple #[]) ∧ w.grownBy w' (some bs) ∧ OwnsV encT w' bs (seenG s (p + 1)) := by
  have hc0 := blk_cell hk 0
  have kp : IntKind.i64.wrap ((p : Int) + 3) = (p : Int) + 3 := IntWalk.i64_in _ (by omega)
  by_cases h3 : p + 3 ≤ s.size
  · have d3 : decide ((p : Int) + 3 ≤ (s.size : Int)) = true := decide_eq_true (by omega)
    have d3n : decide (p + 3 ≤ s.size) = true := decide_eq_true h3
    obtain ⟨x, hx⟩ : ∃ x : Int, ((tri s p).1.toNat : Int) = x := ⟨_, rfl⟩
    obtain ⟨y, hy⟩ : ∃ x : Int, ((tri s p).2.1.toNat : Int) = x := ⟨_, rfl⟩
    obtain ⟨z, hz⟩ : ∃ x : Int, ((tri s p).2.2.toNat : Int) = x := ⟨_, rfl⟩
    have hX : encT (tri s p) = .agg #[.int .u8 x, .int .u8 y, .int .u8 z] := by unfold encT; rw [hx, hy, hz]
    have hT := fun u => triple_calls s p u (by omega) (by omega)
    rw [hX] at hT
    obtain ⟨c, hc⟩ : ∃ c, cnt s (tri s p) p = c := ⟨_, rfl⟩
    have hcl := cnt_le s (tri s p) p
    have hup := seen_succ s p h3
    have hL := fun u g h h2 => look_seen s p p bs (tri s p) u g h h2
    rw [hc] at hcl hup hL
    rw [hX] at hL
    have kc : IntKind.i64.wrap ((c : Int) + 1) = (c : Int) + 1 := IntWalk.i64_in _ (by omega)
    have HX := Aside0.mk hX
    have HT := Aside0.mk hT
    have HUP := Aside0.mk hup
    have HL := Aside0.mk hL
    have HNE := Aside0.mk (show some F ≠ some bs by
      intro e; injection e with e
      obtain ⟨es, clock, hm, _⟩ := ho
      rw [e, hm] at hk; cases hk)
    have HK0 := Aside0.mk hk
    have HO0 := Aside0.mk ho
    clear hx hy hz hX hT hc hup hL hk ho hs hp h3
    go_enter Try.func22, Try.ntmps22
    go_wp2
    refine start_ (n := 15) (S := fun w' => w'.cell? ⟨F, 0, none⟩ = some (.string s) ∧ w'.cell? ⟨F, 5, none⟩ = some (.map (some bs)) ∧ (Instr.lookup 55 (.map (some bs)) (.agg #[.int .u8 x, .int .u8 y, .int .u8 z]) false).run Try.prog w' = .ok (.int .i64 (c : Int)) w') (ds := [14]) #[false, false, false, false, false, false, false, false, false, false, false, false, false, false, false] (by as_aux_lemma => kernel_rfl) rfl rfl ⟨(blk_cell HK0.out 0), (blk_cell HK0.out 5), (HL.out _ _ (OwnsV.move HO0.out rfl) (fun _ => rfl))⟩ (fun hHeld => ?_)
    refine pure_ (i := 0) (N := some 12) (v := ?_) (a' := ?_) #[true, false, false, false, false, false, false, false, false, false, false, false, false, false, false] rfl rfl (by as_aux_lemma => kernel_rfl) (fun _ _ _ h => h) (Or.inl ⟨by rfl, ?_⟩) ?_ ?_
    rotate_left
    · intro w'
      go_simp
      with_reducible rfl
    rotate_left
    · simp only [Act.put, List.setIfInBounds_toArray, List.set_cons_zero, List.set_cons_succ, i64_w, i32_w]
      rfl
    refine pure_ (i := 1) (N := some 13) (v := ?_) (a' := ?_) #[true, true, false, false, false, false, false, false, false, false, false, false, false, false, false] rfl rfl (by as_aux_lemma => kernel_rfl) (fun _ _ _ h => h) (Or.inl ⟨by rfl, ?_⟩) ?_ ?_
    rotate_left
    · intro w'
      go_simp
      with_reducible rfl
    rotate_left
    · simp only [Act.put, List.setIfInBounds_toArray, List.set_cons_zero, List.set_cons_succ, i64_w, i32_w]
      rfl
    refine pure_ (i := 2) (N := some 14) (v := ?_) (a' := ?_) #[true, true, true, false, false, false, false, false, false, false, false, false, false, false, false] rfl rfl (by as_aux_lemma => kernel_rfl) (fun _ _ _ h => h) (Or.inl ⟨by rfl, ?_⟩) ?_ ?_
    rotate_left
    · intro w'
      go_simp
      with_reducible rfl
    rotate_left
    · simp only [Act.put, List.setIfInBounds_toArray, List.set_cons_zero, List.set_cons_succ, i64_w, i32_w]
      rfl
    refine pure_ (i := 4) (N := some 16) (v := ?_) (a' := ?_) #[true, true, true, false, true, false, false, false, false, false, false, false, false, false, false] rfl rfl (by as_aux_lemma => kernel_rfl) (fun _ _ _ h => h) (Or.inl ⟨by rfl, ?_⟩) ?_ ?_
    rotate_left
    · intro w'
      go_simp
      with_reducible rfl
    rotate_left
    · simp only [Act.put, List.setIfInBounds_toArray, List.set_cons_zero, List.set_cons_succ, i64_w, i32_w]
      rfl
    refine pure_ (i := 5) (N := some 17) (v := ?_) (a' := ?_) #[true, true, true, false, true, true, false, false, false, false, false, false, false, false, false] rfl rfl (by as_aux_lemma => kernel_rfl) (fun _ _ _ h => h) (Or.inl ⟨by rfl, ?_⟩) ?_ ?_
    rotate_left
    · intro w'
      go_simp
      with_reducible rfl
    rotate_left
    · simp only [Act.put, List.setIfInBounds_toArray, List.set_cons_zero, List.set_cons_succ, i64_w, i32_w]
      rfl
    refine pure_ (i := 6) (N := some 18) (v := ?_) (a' := ?_) #[true, true, true, false, true, true, true, false, false, false, false, false, false, false, false] rfl rfl (by as_aux_lemma => kernel_rfl) (fun _ _ _ h => h) (Or.inl ⟨by rfl, ?_⟩) ?_ ?_
    rotate_left
    · intro w'
      go_simp
      with_reducible rfl
    rotate_left
    · simp only [Act.put, List.setIfInBounds_toArray, List.set_cons_zero, List.set_cons_succ, i64_w, i32_w]
      rfl
    refine pure_ (i := 8) (N := some 20) (v := ?_) (a' := ?_) #[true, true, true, false, true, true, true, false, true, false, false, false, false, false, false] rfl rfl (by as_aux_lemma => kernel_rfl) (fun _ _ _ h => h) (Or.inl ⟨by rfl, ?_⟩) ?_ ?_
    rotate_left
    · intro w'
      go_simp
      with_reducible rfl
    rotate_left
    · simp only [Act.put, List.setIfInBounds_toArray, List.set_cons_zero, List.set_cons_succ, i64_w, i32_w]
      rfl
    refine take_ (i := 3) (N := some 15) (v := ?_) (a' := ?_) #[true, true, true, true, true, true, true, false, true, false, false, false, false, false, false] rfl rfl (by as_aux_lemma => kernel_rfl) (fun _ _ _ h => h) (Or.inl ⟨by rfl, ?_⟩) hHeld ?_ ?_
    rotate_left
    · rintro w' ⟨s0, s1, s2⟩
      go_simp
      with_reducible rfl
    rotate_left
    · simp only [Act.put, List.setIfInBounds_toArray, List.set_cons_zero, List.set_cons_succ, i64_w, i32_w]
      rfl
    refine take_ (i := 7) (N := some 19) (v := ?_) (a' := ?_) #[true, true, true, true, true, true, true, true, true, false, false, false, false, false, false] rfl rfl (by as_aux_lemma => kernel_rfl) (fun _ _ _ h => h) (Or.inl ⟨by rfl, ?_⟩) hHeld ?_ ?_
    rotate_left
    · rintro w' ⟨s0, s1, s2⟩
      go_simp
      with_reducible rfl
    rotate_left
    · simp only [Act.put, List.setIfInBounds_toArray, List.set_cons_zero, List.set_cons_succ, i64_w, i32_w]
      rfl
    refine one_ (i := 9) (N := some 21) #[true, true, true, true, true, true, true, true, true, true, false, false, false, false, false] rfl rfl (by as_aux_lemma => kernel_rfl) (by decide) (fun K hK => ?_)
    refine goes_ Try.func18 (by as_aux_lemma => kernel_rfl) rfl #[.string s, .int .i64 (p : Int)] (by rfl) rfl rfl (by simp only [List.map_toArray, List.map_cons, List.map_nil]; rfl) ?_
    with_reducible refine (HT.out _).mono ?_
    rintro e w1 ⟨rfl, hb⟩
    refine ⟨_, rfl, ?_⟩
    have HK1 := Aside0.mk (blk_below (blk_drew HK0.out) hb); have HO1 := Aside0.mk (OwnsV.below (OwnsV.move HO0.out rfl : OwnsV encT w.drew bs (seenG s p)) hb); have HB1 := Aside0.mk (below_step (below_drew1 (Below.refl w.heap.size w)) hb); clear hb
    refine hK.out _ _ ⟨(blk_cell HK1.out 0), (blk_cell HK1.out 5), (HL.out _ _ HO1.out (fun _ => rfl))⟩ (fun hHeld => ?_)
    clear hK K
    refine norm_ (a' := ?_) ?_ ?_
    rotate_left
    · show Act.put _ (some 21) _ = _
      simp only [Act.put, List.setIfInBounds_toArray, List.set_cons_zero, List.set_cons_succ, i64_w, i32_w]
      rfl
    refine take_ (i := 10) (N := some 22) (v := ?_) (a' := ?_) #[true, true, true, true, true, true, true, true, true, true, true, false, false, false, false] rfl rfl (by as_aux_lemma => kernel_rfl) (fun _ _ _ h => h) (Or.inl ⟨by rfl, ?_⟩) hHeld ?_ ?_
    rotate_left
    · rintro w' ⟨s0, s1, s2⟩
      go_simp
      with_reducible rfl
    rotate_left
    · simp only [Act.put, List.setIfInBounds_toArray, List.set_cons_zero, List.set_cons_succ, i64_w, i32_w]
      rfl
    refine pure_ (i := 11) (N := some 23) (v := ?_) (a' := ?_) #[true, true, true, true, true, true, true, true, true, true, true, true, false, false, false] rfl rfl (by as_aux_lemma => kernel_rfl) (fun _ _ _ h => h) (Or.inl ⟨by rfl, ?_⟩) ?_ ?_
    rotate_left
    · intro w'
      go_simp
      with_reducible rfl
    rotate_left
    · simp only [Act.put, List.setIfInBounds_toArray, List.set_cons_zero, List.set_cons_succ, i64_w, i32_w]
      rfl
    refine one_ (i := 12) (N := some 24) #[true, true, true, true, true, true, true, true, true, true, true, true, true, false, false] rfl rfl (by as_aux_lemma => kernel_rfl) (by decide) (fun K hK => ?_)
    obtain ⟨v0, st, w2, g2, hrun, hg, hback, ho2, hsm⟩ := entry_run (P := Try.prog) (t := 55) keyed Try.underlying55 zeroI encT_inj key_ok HO1.out (tri s p)
    rw [HX.out, show goInt (st : Int) = .int .i64 (st : Int) from rfl] at hrun
    have HG2 := Aside0.mk hg; have HBK := Aside0.mk hback; have HK2 := Aside0.mk (blk_grown HK1.out hg HNE.out); have HL2 := Aside0.mk (HL.out w2 g2 ho2 hsm); clear hg hback ho2 hsm
    refine value_ (w1 := ?_) (v := ?_) (by rfl) rfl ?_ ?_
    rotate_left 2
    · go_simp
      constructor
      · rfl
      · rfl
    clear hrun
    refine hK.out _ _ ⟨(blk_cell HK2.out 0), (blk_cell HK2.out 5), HL2.out⟩ (fun hHeld => ?_)
    clear hK K
    refine norm_ (a' := ?_) ?_ ?_
    rotate_left
    · show Act.put _ (some 24) _ = _
      simp only [Act.put, List.setIfInBounds_toArray, List.set_cons_zero, List.set_cons_succ, i64_w, i32_w]
      rfl
    refine pure_ (i := 13) (N := some 25) (v := ?_) (a' := ?_) #[true, true, true, true, true, true, true, true, true, true, true, true, true, true, false] rfl rfl (by as_aux_lemma => kernel_rfl) (fun _ _ _ h => h) (Or.inl ⟨by rfl, ?_⟩) ?_ ?_
    rotate_left
    · intro w'
      go_simp
      with_reducible rfl
    rotate_left
    · simp only [Act.put, List.setIfInBounds_toArray, List.set_cons_zero, List.set_cons_succ, i64_w, i32_w]
      rfl
    refine last_ (i := 14) (N := none) #[true, true, true, true, true, true, true, true, true, true, true, true, true, true, true] rfl rfl (by as_aux_lemma => kernel_rfl) (by decide) (fun K hK => ?_)
    obtain ⟨w3, hrun, ho, hg⟩ := HBK.out w2 (.int .i64 ((c : Int) + 1)) rfl
    rw [show goInt (st : Int) = .int .i64 (st : Int) from rfl] at hrun
    have HO3 := Aside0.mk ho; have HG3 := Aside0.mk hg; clear ho hg
    refine skip_ (w1 := ?_) (by rfl) rfl ?_ ?_
    rotate_left
    · go_simp
      rfl
    clear hrun
    refine hK.out _ _ ?_
    clear hK K
    refine done_ (by as_aux_lemma => kernel_rfl) ?_
    go_wp2
    go_end0
    refine ⟨rfl, ?_, ?_⟩
    · exact grown_then (grown_then (grown_of_below HB1.out (some bs)) HG2.out) HG3.out
    · have := HO3.out
      rwa [HUP.out] at this
  · have d3 : decide ((p : Int) + 3 ≤ (s.size : Int)) = false := decide_eq_false (by omega)
    have d3n : decide (p + 3 ≤ s.size) = false := decide_eq_false h3
    have HO0 := Aside0.mk ho
    have HUP := Aside0.mk (seen_stay s p h3)
    clear ho hk hs hp h3
    go_enter Try.func22, Try.ntmps22
    go_wp2
    go_end0
    refine ⟨rfl, grown_of_below (Below.refl _ _) _, ?_⟩
    rw [HUP.out]
    exact HO0.out
end Go.Proofs.Ytgpmhdefpbmhjaa.Fi
