/- MatchChains: where any triple begins in any text: the walk through the law's own code. -/
import Derived.Test.YtgpmhdefpbmhjaaAwake
import Derived.Test.YtgpmhdefpbmhjaaPlaces
namespace Go.Proofs.Ytgpmhdefpbmhjaa.Walk
set_option linter.unusedVariables false
set_option linter.unusedSimpArgs false
open Go Go.RowKit Go.Proofs.Ytgpmhdefpbmhjaa.P Go.Proofs.Ytgpmhdefpbmhjaa.B Go.Proofs.Ytgpmhdefpbmhjaa.D7 Go.Proofs.Ytgpmhdefpbmhjaa.Ch Go.Proofs.Ytgpmhdefpbmhjaa.MapG Go.Proofs.YtgpmhdefpbmhjaaW.PrintWords Go.Proofs.YtgpmhdefpbmhjaaW.PrintLast Go.Proofs.YtgpmhdefpbmhjaaW.PrintMore

attribute [local go_sem] max2_int min2_int max_two min_two
set_option maxHeartbeats 4000000 in
set_option maxRecDepth 100000 in
theorem MatchChains (s : ByteArray) (a b c : Int) (w : World) (hs : s.size ≤ 140737488351232) (ha : (Lit.int .u8 a).wf = true) (hb : (Lit.int .u8 b).wf = true) (hc : (Lit.int .u8 c).wf = true) :
    Calls Try.prog 4 #[.string s, .int .u8 a, .int .u8 b, .int .u8 c] w fun e w' => e = .returned (.bool true) ∧ Below w.heap.size w w' := by
  obtain ⟨a, rfl⟩ := byte_of ha
  obtain ⟨b, rfl⟩ := byte_of hb
  obtain ⟨c, rfl⟩ := byte_of hc
  clear ha hb hc
  by_cases h5 : (s.size : Int) > 1000
  · have h5b : decide (1000 < (s.size : Int)) = true := decide_eq_true h5
    have h5c : decide (1000 < s.size) = true := decide_eq_true (by omega)
    go_enter Try.func4, Try.ntmps4
    go_wp2_with (go_at_call 9; refine (awake_calls _).mono ?_; rintro e w1 ⟨rfl, hb⟩)
    go_ret
    exact ⟨rfl, by assumption⟩
  have h5b : decide (1000 < (s.size : Int)) = false := decide_eq_false h5
  have h5c : decide (1000 < s.size) = false := decide_eq_false (by omega)
  have hs2 : s.size ≤ 1000 := by omega
  obtain ⟨kp, hkp⟩ := places_same s hs2 (a, b, c)
  have HKP := Aside0.mk hkp
  clear hkp
  have hpl : places s = s.size - 2 := by unfold places; rw [if_pos (by omega)]
  have htot : total (chL s (places s)) = s.size - 2 := by rw [chL_total, hpl]
  have HT := Aside0.mk htot
  obtain ⟨L, hL⟩ : ∃ L, chL s (places s) = L := ⟨_, rfl⟩
  rw [hL] at HT HKP
  have HL := Aside0.mk hL
  clear hpl htot hL
  go_enter Try.func4, Try.ntmps4
  go_wp2_with (first
    | (go_at_call 9; refine (awake_calls _).mono ?_; rintro e w1 ⟨rfl, hb⟩; have HW1 := Aside0.mk hb; clear hb)
    | (go_at_call 15; refine (chains_calls s _ hs).mono ?_; rintro e w2 ⟨rfl, ho, hb⟩; rw [HL.out] at ho; have HO2 := Aside0.mk ho; have HW2 := Aside0.mk (below_step HW1.out hb); clear ho hb)
    | (at_range; refine wpList_rangeG rfl _ _ rfl Try.underlying37 rfl HO2.out ?_; intro w3 hrg hb; have HRG := Aside0.mk hrg; have HW3 := Aside0.mk (below_step HW2.out hb); clear hrg hb))
  go_frame
  go_loopw [10] (fun v10 wr => ∃ (acc cnt left : Nat), v10 = .int .i64 acc ∧ acc + left = s.size - 2 ∧ Aside0 (RangeG Try.prog 40 encT wr w1.heap.size (w1.heap.size + 1) w2.heap.size L cnt left) ∧ Aside0 (Below w.heap.size w wr))
    (fun _ wr => wr.rangeLeft w1.heap.size w2.heap.size)
  case atStart => exact ⟨0, _, _, rfl, by rw [HT.out]; omega, HRG, HW3⟩
  case round =>
    obtain ⟨acc, cnt, left, rfl, hacc, HR, HB⟩ := hrel
    go_wp2_with (at_next; refine wpList_nextG rfl _ rfl rfl HR.out ?_ ?_)
    rotate_left
    · intro key A n cc w4 cnt' left' hl hlt hrg hg hsz hen
      have hh1 := HR.out.left_eq
      have hh2 := hrg.left_eq
      have HR4 := Aside0.mk hrg
      have HB4 := Aside0.mk (pw_below_grown HB.out (some w2.heap.size) HB.out.size hg (fun k hk => by injection hk with hk; have := HW2.out.size; omega))
      clear hrg hg hsz
      have hn : n ≤ 1000 := by omega
      go_wp2
      go_roundw
      case rel => exact ⟨acc + n, cnt', left', by go_num, by omega, HR4, HB4⟩
      case measure => rw [hh1, hh2]; exact hlt
    · intro h0 h1
      subst h0 h1
      obtain ⟨v, hlk, hri⟩ := lookup_any keyed Try.underlying37 zeroM encT_inj key_ok HR.out.1 (a, b, c)
      obtain ⟨A, cc, rfl⟩ := RI_slice hri
      have hcells := fun g h => World.ownsRow.cells hri (g := g) h
      obtain ⟨zs, hzs⟩ : ∃ zs, getL L (a, b, c) = zs := ⟨_, rfl⟩
      rw [hzs] at hri hlk HKP hcells
      have hzl : zs.length ≤ 1000 := by
        rw [← hzs, ← HL.out]
        have := get_len s (places s) (a, b, c)
        have : places s ≤ s.size := by unfold places; split <;> omega
        omega
      clear hzs
      have hlk1 := hlk wr rfl
      have hlk2 := hlk wr.drew rfl
      have HLK := Aside0.mk hlk
      have HRI := Aside0.mk hri
      have hbl : w1.heap.size < wr.heap.size := by obtain ⟨es, cl, hm, _⟩ := HR.out.1; exact (Array.getElem?_eq_some_iff.1 hm).1
      clear hlk hri hcells
      unfold encT at hlk1 hlk2
      go_upto_region 11 with (fail)
      go_region_held3 (fun W' => (Instr.lookup 37 (.map (some w1.heap.size)) (.agg #[.int .u8 (a.toNat : Int), .int .u8 (b.toNat : Int), .int .u8 (c.toNat : Int)]) false).run Try.prog W' = .ok (.slice A zs.length cc) W') (first | exact hlk2 | exact hy2 | exact hlk1)
        (first
          | (go_at_call 16; refine (portmanteauref07_Places.calls kp s _ _ _ zs _ HKP.out).mono ?_; rintro e w5 ⟨v5, rfl, hr, hb⟩; have hy2 := HLK.out w5 (hb.block w1.heap.size hbl); unfold encT at hy2; have HR5 := Aside0.mk hr; have HB5 := Aside0.mk (below_step (below_drew1 (Below.refl wr.heap.size wr)) hb); clear hr hb))
      all_goals
        have HB6 := Aside0.mk (below_step HB.out HB5.out)
        obtain ⟨A5, c5, rfl, hl5, _⟩ := Kd.R_reads HR5.out
        have HRI5 := Aside0.mk (RI_move HRI.out (fun k hk => HB5.out.block k (own_lt HRI.out k hk)))
        clear hlk1 hlk2 hy2
        have hmx : ((acc : Int) != if (2 : Int) < (s.size : Int) then (s.size : Int) - 2 else 0) = false := by simp; split <;> omega
        go_upto_if 56 with (fail)
        go_wp2
        all_goals
          go_loopw [59] (fun v59 wr2 => ∃ (j : Nat), v59 = .int .i64 j ∧ j ≤ zs.length ∧ Aside0 (Below w5.heap.size w5 wr2))
            (fun v _ => zs.length - (intOf v).toNat)
          case atStart => exact ⟨0, rfl, by omega, ⟨Below.refl _ _⟩⟩
          case round =>
            obtain ⟨j, rfl, hj, HBJ⟩ := hrel
            by_cases hlt : j < zs.length
            · have hd : decide (j < zs.length) = true := decide_eq_true hlt
              obtain ⟨gr, hgr⟩ : ∃ gr, A = some ⟨gr, 0, none⟩ := by
                rcases HRI5.out.2 with ⟨h, _⟩ | ⟨gr, _, _, h, _⟩
                · have := RI_len HRI5.out; rw [h] at this; simp [lenV] at this; omega
                · injection h with h; exact ⟨gr, h⟩
              subst hgr
              obtain ⟨g5, cap5, hv5, _⟩ := Kd.R_form HR5.out (by omega)
              injection hv5 with hv5
              subst hv5
              have hc1 := pw_cell_below HBJ.out (World.ownsRow.cells HRI5.out (g := gr) rfl j (.int .i64 zs[j]) (by simp [hlt]))
              have hc2 := pw_cell_below HBJ.out (Kd.R_cell 0 HR5.out (j : Int) (by omega) (by omega)).1
              have hzj : rdOf 0 zs (j : Int) = zs[j] := by unfold rdOf; simp [hlt]
              rw [hzj] at hc2
              simp only [Int.toNat_natCast] at hc2
              rw [add_plain] at hc1
              generalize zs[j] = z at hc1 hc2
              go_upto_region 17 with (fail)
              go_quiet (fail)
              go_wp2
              go_roundw
              case rel => exact ⟨j + 1, by go_num, by omega, ⟨pw_below_drewN HBJ.out _⟩⟩
              case measure => simp [intOf]; omega
            · have hd : decide (j < zs.length) = false := decide_eq_false hlt
              go_wp2
              go_ret
              exact ⟨rfl, below_step HB6.out HBJ.out⟩
end Go.Proofs.Ytgpmhdefpbmhjaa.Walk
