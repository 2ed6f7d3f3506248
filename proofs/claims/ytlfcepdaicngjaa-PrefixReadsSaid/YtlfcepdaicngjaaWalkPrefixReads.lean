/- PrefixReads: the signs that any bits are, by any code; and the words of any signs: the walk through the law's own code. Printed by genreads4.py. -/
import Derived.Test.YtlfcepdaicngjaaMg2
import Derived.Test.YtlfcepdaicngjaaPx2
import Derived.Test.YtlfcepdaicngjaaPx8
namespace Go.Proofs.Ytlfcepdaicngjaa.Walk
set_option linter.unusedVariables false
set_option linter.unusedSimpArgs false
open Go Go.RowKit Go.Proofs.Ytlfcepdaicngjaa.P Go.Proofs.Ytlfcepdaicngjaa.Pk Go.Proofs.Ytlfcepdaicngjaa.B Go.Proofs.Ytlfcepdaicngjaa.Bn Go.Proofs.Ytlfcepdaicngjaa.Hd Go.Proofs.Ytlfcepdaicngjaa.Bw Go.Proofs.Ytlfcepdaicngjaa.Rw Go.Proofs.Ytlfcepdaicngjaa.Rd Go.Proofs.YtlfcepdaicngjaaW.PrintWords Go.Proofs.YtlfcepdaicngjaaW.PrintLast Go.Proofs.YtlfcepdaicngjaaW.PrintMore
theorem sign_step (ls ws : List Int) (s : ByteArray) (a : Nat) (x er : Int) (a' : Nat) (h : SignR ls ws s a x er a') : er ≠ 0 ∨ a < a' := by
  unfold SignR at h
  dsimp only at h
  rcases h with ⟨i, l, hi, rfl, _, h1, _, _, _, _, rfl⟩ | ⟨_, _, _, h⟩
  · exact .inr (by omega)
  · rcases h with ⟨rfl, _⟩ | ⟨rfl, _⟩ <;> exact .inl (by decide)
set_option maxHeartbeats 16000000 in
set_option maxRecDepth 100000 in
theorem PrefixReads (A : Option Addr) (cap : Nat) (l : List Int) (o : Bool) (s : ByteArray) (A2 : Option Addr) (cap2 : Nat) (sg : List Int) (w : World) (hl : l.length ≤ cap) (hC : Kd.C (Kd.int .u8) w A l.length l) (hok : ∀ x ∈ l, (Lit.int .u8 x).wf = true) (hz : l.length * 1 ≤ 140737488351232)
    (hs : s.size ≤ 140737488351232) (hl2 : sg.length ≤ cap2) (hC2 : Kd.C (Kd.int .i64) w A2 sg.length sg) (hok2 : ∀ x ∈ sg, (Lit.int .i64 x).wf = true) (hz2 : sg.length * 8 ≤ 140737488351232) :
    Calls Try.prog 5 #[.slice A l.length cap, .bool o, .string s, .slice A2 sg.length cap2] w fun e w' => e = .returned (.bool true) ∧ Below w.heap.size w w' := by
  have hu : ∀ x ∈ l, 0 ≤ x := fun x hx => by
    have := hok x hx
    simp [Lit.wf, IntKind.min, IntKind.max, IntKind.signed, IntKind.bits] at this
    omega
  have HU := Aside0.mk hu
  have HC := Aside0.mk hC
  have HC2 := Aside0.mk hC2
  have HL := Aside0.mk hl
  clear hok hok2 hC hC2 hl hz hz2 hl2
  by_cases h4 : 400 < l.length
  · have hd : decide (400 < l.length) = true := decide_eq_true h4
    go_enter Try.func5, Try.ntmps5
    go_wp2_with (go_at_call 7; refine (awake_calls _).mono ?_; rintro e w1 ⟨rfl, hb⟩)
    go_ret
    exact ⟨rfl, by assumption⟩
  have hd : decide (400 < l.length) = false := decide_eq_false h4
  by_cases h3 : 300 < s.size
  · have hd2 : decide (300 < s.size) = true := decide_eq_true h3
    go_enter Try.func5, Try.ntmps5
    go_wp2_with (go_at_call 7; refine (awake_calls _).mono ?_; rintro e w1 ⟨rfl, hb⟩)
    go_ret
    exact ⟨rfl, by assumption⟩
  have hd2 : decide (300 < s.size) = false := decide_eq_false h3
  by_cases h1 : 100 < sg.length
  · have hd3 : decide (100 < sg.length) = true := decide_eq_true h1
    go_enter Try.func5, Try.ntmps5
    go_wp2_with (go_at_call 7; refine (awake_calls _).mono ?_; rintro e w1 ⟨rfl, hb⟩)
    go_ret
    exact ⟨rfl, by assumption⟩
  have hd3 : decide (100 < sg.length) = false := decide_eq_false h1
  obtain ⟨ws, hrn, hfin⟩ := rnew_f l o hu (by omega)
  have HRN := Aside0.mk hrn
  have HFIN := Aside0.mk hfin
  have HNX := Aside0.mk (fun (W : World) (h : Kd.C (Kd.int .u8) W A l.length l) => new_exact A cap l o W h HL.out hu)
  obtain ⟨r, hr⟩ : ∃ r, newR l o = r := ⟨_, rfl⟩
  rw [hr] at HRN HFIN HNX
  clear hrn hfin hu hr
  go_enter Try.func5, Try.ntmps5
  go_upto_region 7 with (first
    | (go_at_call 7; refine (awake_calls _).mono ?_; rintro e w1 ⟨rfl, hb⟩; have HB1 := Aside0.mk hb; clear hb)
    | (go_at_call 8; refine (HNX.out _ (Kd.C_below HC.out HB1.out)).mono ?_; rintro e w2 ⟨cc, rfl, hb, hor⟩; have HB12 := Aside0.mk hb; have HB2 := Aside0.mk (below_step HB1.out hb); have HOR := Aside0.mk hor; clear hb hor)
    | (go_at_call 15; refine (portmanteauref04_New.calls 310000 A cap l o ws r _ (Kd.C_below HC.out HB2.out) HL.out HRN.out).mono ?_; rintro e w3 ⟨vw, rfl, hrw, hb⟩; have HRW := Aside0.mk hrw; have HB23 := Aside0.mk hb; have HB3 := Aside0.mk (below_step HB2.out hb); clear hrw hb))
  by_cases hr0 : r = 0
  case neg =>
    have hrb : (r != 0) = true := bne_iff_ne.2 hr0
    go_wp2
    go_ret
    exact ⟨by simp, HB3.out⟩
  subst hr0
  rcases HOR.out with ⟨hr, _⟩ | ⟨p, n, _, rfl, hF, hn, hokw, hCo⟩
  · exact absurd rfl hr
  have HK := Aside0.mk (code_ok l n hokw hF hn)
  have HP := Aside0.mk (hCo.below HB23.out)
  have HF0 := Aside0.mk (HFIN.out rfl)
  obtain ⟨A8, c8, rfl, hc8, hwc⟩ := Kd.R_reads HRW.out
  have hwl : ws.length = (nat l).length := HF0.out.1
  have hnl : (nat l).length = l.length := nat_len l
  have h15 : ∀ x ∈ nat l, x ≤ 15 := by
    intro x hx
    obtain ⟨i, hi, rfl⟩ := List.mem_iff_getElem.1 hx
    exact (HK.out.at_ i (by rw [nat_len] at hi; exact hi)).2
  have HWC := Aside0.mk hwc
  have HFIT := Aside0.mk HK.out.fit
  have RSG := Aside0.mk (fun (q a : Nat) (W : World) hq hq0 hB ha => rsign_calls A8 c8 q a s (nat l) ws w3 W HFIT.out h15 (by omega) HF0.out hwc hc8 hq hq0 hB (by omega) ha)
  have RPN := Aside0.mk (fun (g : Nat) (x : Int) (W : World) hB hx => rput_none A8 c8 g x (nat l) ws w3 W HF0.out hwc hB hx)
  have RPC := Aside0.mk (fun (g k : Nat) (v : Value) (N len : Nat) (W : World) hB hk hp h15 hI hl => rput_calls A8 c8 g k v N len (nat l) ws w3 W HF0.out hwc hB (by omega) hk hp h15 hI hl)
  have hwll : ws.length = l.length := hwl.trans hnl
  rw [hwll] at RSG RPN RPC HWC ⊢
  clear HOR hF hn hokw hCo hwc hc8 hwl hnl h15 HRW HFIN HRN HNX HFIT hwll
  go_upto_block 0 with (go_at_call 9; refine (bits_Over.calls _ _ _ _ w3 w3 (Below.refl _ _) rfl).mono ?_; rintro e w4 ⟨g, rfl, hi, hb, _⟩; have HI4 := Aside0.mk hi; have HB4 := Aside0.mk hb; clear hi hb)
  obtain ⟨q, hq⟩ : ∃ q, w4.heap.size = q := ⟨_, rfl⟩
  have HQ5 := Aside0.mk (heap_alloc_new w4 (.cells #[.string s, .int .i64 0, .int .i64 0] 45))
  have HI5 := Aside0.mk (IsS70.alloc HI4.out (.cells #[.string s, .int .i64 0, .int .i64 0] 45))
  have HB5 := Aside0.mk (below_alloc HB4.out (.cells #[.string s, .int .i64 0, .int .i64 0] 45))
  have HG := Aside0.mk (show g < q by rw [← hq]; exact IsS70.lt HI4.out)
  have HQ0 := Aside0.mk (show w3.heap.size ≤ q by rw [← hq]; exact HB4.out.size)
  rw [hq] at HQ5 ⊢
  generalize w4.alloc (.cells #[.string s, .int .i64 0, .int .i64 0] 45) = w5 at HI5 HB5 HQ5 ⊢
  clear hq HI4 HB4
  go_cut [] (fun wc => Aside0 (Below w3.heap.size w3 wc))
  case first =>
    go_wp2
    go_loopw [69] (fun v69 wr => ∃ (j a : Nat), v69 = .int .i64 j ∧ j ≤ a ∧ a ≤ 8 * s.size ∧ Aside0 (IsS70 w3 wr g s a 0) ∧ Aside0 (wr.heap[q]? = some (.cells #[.string s, .int .i64 (a : Int), .int .i64 0] 45 (0, 0))) ∧ Aside0 (Below w3.heap.size w3 wr))
      (fun v69 _ => 8 * s.size + 1 - (intOf v69).toNat)
    case atStart => exact ⟨0, 0, rfl, by omega, by omega, HI5, HQ5, HB5⟩
    case round =>
      clear HI5 HQ5 HB5
      obtain ⟨j, a, rfl, hja, ha, HI, HQ, HB⟩ := hrel
      have hlt : decide ((j : Int) < 8 * (s.size : Int) + 1) = true := decide_eq_true (by omega)
      have hlt2 : decide (j < 8 * s.size + 1) = true := decide_eq_true (by omega)
      go_upto_region 14 with (first
        | (go_at_call 11; refine (sign_calls p g a s l _ w3 _ HK.out HP.out HI.out HB.out (by omega) ha).mono ?_; rintro e w6 ⟨x, er, a1, rfl, hsr, ha1, hi, hb, hk⟩; have HSR := Aside0.mk hsr; have HI6 := Aside0.mk hi; have HB6 := Aside0.mk hb; have HQ6 := Aside0.mk (hk.blk HQ.out (by have := HG.out; omega) (by simp)); clear hi hb hsr hk)
        | (go_at_call 16; refine (RSG.out q a _ HQ6.out HQ0.out HB6.out ha).mono ?_; rintro e w7 ⟨x2, er2, a2, rfl, hrr, ha2, hq2, hb, hk⟩; have HRR := Aside0.mk hrr; have HQ7 := Aside0.mk hq2; have HB7 := Aside0.mk hb; have HI7 := Aside0.mk (show IsS70 w3 w7 g s a1 0 from ⟨hk.blk HI6.out.1 (by have := HG.out; omega) (by simp), HI6.out.2⟩); clear hrr hq2 hb hk))
      obtain ⟨rfl, rfl, rfl⟩ := sign_same l _ HK.out s a ha x er x2 er2 a1 a2 HSR.out HRR.out
      have HST := Aside0.mk (sign_step l _ s a x er a1 HSR.out)
      have hxx : (x != x) = false := by simp
      have hee : (er != er) = false := by simp
      have haa : ((a1 : Int) != (a1 : Int)) = false := by simp
      clear HSR HRR HI HB HQ HI6 HB6 HQ6
      refine start_ (n := 17) (S := fun w' => w'.cell? ⟨q, 1, none⟩ = some (.int .i64 (a1 : Int))) (ds := []) #[false, false, false, false, false, false, false, false, false, false, false, false, false, false, false, false, false] (by kernel_rfl) rfl rfl ((blk_cell HQ7.out 1)) (fun hHeld => ?_)
      refine pure_ (i := 0) (N := some 83) (v := ?_) (a' := ?_) #[true, false, false, false, false, false, false, false, false, false, false, false, false, false, false, false, false] rfl rfl (by kernel_rfl) (fun _ _ _ h => h) (Or.inl ⟨by rfl, ?_⟩) ?_ ?_
      rotate_left
      · intro w'
        go_simp
        with_reducible rfl
      rotate_left
      · simp only [Act.put, List.setIfInBounds_toArray, List.set_cons_zero, List.set_cons_succ, i64_w, i32_w]
        rfl
      refine pure_ (i := 1) (N := some 84) (v := ?_) (a' := ?_) #[true, true, false, false, false, false, false, false, false, false, false, false, false, false, false, false, false] rfl rfl (by kernel_rfl) (fun _ _ _ h => h) (Or.inl ⟨by rfl, ?_⟩) ?_ ?_
      rotate_left
      · intro w'
        go_simp
        with_reducible rfl
      rotate_left
      · simp only [Act.put, List.setIfInBounds_toArray, List.set_cons_zero, List.set_cons_succ, i64_w, i32_w]
        rfl
      refine pure_ (i := 2) (N := some 85) (v := ?_) (a' := ?_) #[true, true, true, false, false, false, false, false, false, false, false, false, false, false, false, false, false] rfl rfl (by kernel_rfl) (fun _ _ _ h => h) (Or.inl ⟨by rfl, ?_⟩) ?_ ?_
      rotate_left
      · intro w'
        go_simp
        with_reducible rfl
      rotate_left
      · simp only [Act.put, List.setIfInBounds_toArray, List.set_cons_zero, List.set_cons_succ, i64_w, i32_w]
        rfl
      refine pure_ (i := 3) (N := some 86) (v := ?_) (a' := ?_) #[true, true, true, true, false, false, false, false, false, false, false, false, false, false, false, false, false] rfl rfl (by kernel_rfl) (fun _ _ _ h => h) (Or.inl ⟨by rfl, ?_⟩) ?_ ?_
      rotate_left
      · intro w'
        go_simp
        with_reducible rfl
      rotate_left
      · simp only [Act.put, List.setIfInBounds_toArray, List.set_cons_zero, List.set_cons_succ, i64_w, i32_w]
        rfl
      refine pure_ (i := 4) (N := some 87) (v := ?_) (a' := ?_) #[true, true, true, true, true, false, false, false, false, false, false, false, false, false, false, false, false] rfl rfl (by kernel_rfl) (fun _ _ _ h => h) (Or.inl ⟨by rfl, ?_⟩) ?_ ?_
      rotate_left
      · intro w'
        go_simp
        with_reducible rfl
      rotate_left
      · simp only [Act.put, List.setIfInBounds_toArray, List.set_cons_zero, List.set_cons_succ, i64_w, i32_w]
        rfl
      refine pure_ (i := 5) (N := some 88) (v := ?_) (a' := ?_) #[true, true, true, true, true, true, false, false, false, false, false, false, false, false, false, false, false] rfl rfl (by kernel_rfl) (fun _ _ _ h => h) (Or.inl ⟨by rfl, ?_⟩) ?_ ?_
      rotate_left
      · intro w'
        go_simp
        with_reducible rfl
      rotate_left
      · simp only [Act.put, List.setIfInBounds_toArray, List.set_cons_zero, List.set_cons_succ, i64_w, i32_w]
        rfl
      refine pure_ (i := 6) (N := some 89) (v := ?_) (a' := ?_) #[true, true, true, true, true, true, true, false, false, false, false, false, false, false, false, false, false] rfl rfl (by kernel_rfl) (fun _ _ _ h => h) (Or.inl ⟨by rfl, ?_⟩) ?_ ?_
      rotate_left
      · intro w'
        go_simp
        with_reducible rfl
      rotate_left
      · simp only [Act.put, List.setIfInBounds_toArray, List.set_cons_zero, List.set_cons_succ, i64_w, i32_w]
        rfl
      refine pure_ (i := 7) (N := some 90) (v := ?_) (a' := ?_) #[true, true, true, true, true, true, true, true, false, false, false, false, false, false, false, false, false] rfl rfl (by kernel_rfl) (fun _ _ _ h => h) (Or.inl ⟨by rfl, ?_⟩) ?_ ?_
      rotate_left
      · intro w'
        go_simp
        with_reducible rfl
      rotate_left
      · simp only [Act.put, List.setIfInBounds_toArray, List.set_cons_zero, List.set_cons_succ, i64_w, i32_w]
        rfl
      refine pure_ (i := 8) (N := some 91) (v := ?_) (a' := ?_) #[true, true, true, true, true, true, true, true, true, false, false, false, false, false, false, false, false] rfl rfl (by kernel_rfl) (fun _ _ _ h => h) (Or.inl ⟨by rfl, ?_⟩) ?_ ?_
      rotate_left
      · intro w'
        go_simp
        with_reducible rfl
      rotate_left
      · simp only [Act.put, List.setIfInBounds_toArray, List.set_cons_zero, List.set_cons_succ, i64_w, i32_w]
        rfl
      refine pure_ (i := 9) (N := some 92) (v := ?_) (a' := ?_) #[true, true, true, true, true, true, true, true, true, true, false, false, false, false, false, false, false] rfl rfl (by kernel_rfl) (fun _ _ _ h => h) (Or.inl ⟨by rfl, ?_⟩) ?_ ?_
      rotate_left
      · intro w'
        go_simp
        with_reducible rfl
      rotate_left
      · simp only [Act.put, List.setIfInBounds_toArray, List.set_cons_zero, List.set_cons_succ, i64_w, i32_w]
        rfl
      refine pure_ (i := 11) (N := some 94) (v := ?_) (a' := ?_) #[true, true, true, true, true, true, true, true, true, true, false, true, false, false, false, false, false] rfl rfl (by kernel_rfl) (fun _ _ _ h => h) (Or.inl ⟨by rfl, ?_⟩) ?_ ?_
      rotate_left
      · intro w'
        go_simp
        with_reducible rfl
      rotate_left
      · simp only [Act.put, List.setIfInBounds_toArray, List.set_cons_zero, List.set_cons_succ, i64_w, i32_w]
        rfl
      refine pure_ (i := 12) (N := some 95) (v := ?_) (a' := ?_) #[true, true, true, true, true, true, true, true, true, true, false, true, true, false, false, false, false] rfl rfl (by kernel_rfl) (fun _ _ _ h => h) (Or.inl ⟨by rfl, ?_⟩) ?_ ?_
      rotate_left
      · intro w'
        go_simp
        with_reducible rfl
      rotate_left
      · simp only [Act.put, List.setIfInBounds_toArray, List.set_cons_zero, List.set_cons_succ, i64_w, i32_w]
        rfl
      refine pure_ (i := 13) (N := some 96) (v := ?_) (a' := ?_) #[true, true, true, true, true, true, true, true, true, true, false, true, true, true, false, false, false] rfl rfl (by kernel_rfl) (fun _ _ _ h => h) (Or.inl ⟨by rfl, ?_⟩) ?_ ?_
      rotate_left
      · intro w'
        go_simp
        with_reducible rfl
      rotate_left
      · simp only [Act.put, List.setIfInBounds_toArray, List.set_cons_zero, List.set_cons_succ, i64_w, i32_w]
        rfl
      refine take_ (i := 14) (N := some 97) (v := ?_) (a' := ?_) #[true, true, true, true, true, true, true, true, true, true, false, true, true, true, true, false, false] rfl rfl (by kernel_rfl) (fun _ _ _ h => h) (Or.inl ⟨by rfl, ?_⟩) hHeld ?_ ?_
      rotate_left
      · intro w' s0
        go_simp
        with_reducible rfl
      rotate_left
      · simp only [Act.put, List.setIfInBounds_toArray, List.set_cons_zero, List.set_cons_succ, i64_w, i32_w]
        rfl
      refine one_ (i := 10) (N := some 93) #[true, true, true, true, true, true, true, true, true, true, true, true, true, true, true, false, false] rfl rfl (by kernel_rfl) (by decide) (fun K hK => ?_)
      refine goes_ Try.func10 (by kernel_rfl) rfl #[.pointer (some ⟨g, 0, none⟩)] (by rfl) rfl rfl (by simp only [List.map_toArray, List.map_cons, List.map_nil]; rfl) ?_
      with_reducible refine (bits_Reader_At.calls g s (a1 : Int) 0 _ _ _ _ w3 _ (IsS70.drew HI7.out) (below_drew1 HB7.out) rfl).mono ?_
      rintro e w8 ⟨rfl, hi, hb, hk⟩
      refine ⟨_, rfl, ?_⟩
      have HI8 := Aside0.mk hi; have HB8 := Aside0.mk hb; have HQ8 := Aside0.mk (hk.blk (show w7.drew.heap[q]? = _ from HQ7.out) (by have := HG.out; omega) (by simp)); clear hi hb hk
      refine hK.out _ _ ((blk_cell HQ8.out 1)) (fun hHeld => ?_)
      clear hK K
      refine norm_ (a' := ?_) ?_ ?_
      rotate_left
      · show Act.put _ (some 93) _ = _
        simp only [Act.put, List.setIfInBounds_toArray, List.set_cons_zero, List.set_cons_succ, i64_w, i32_w]
        rfl
      refine pure_ (i := 15) (N := some 98) (v := ?_) (a' := ?_) #[true, true, true, true, true, true, true, true, true, true, true, true, true, true, true, true, false] rfl rfl (by kernel_rfl) (fun _ _ _ h => h) (Or.inl ⟨by rfl, ?_⟩) ?_ ?_
      rotate_left
      · intro w'
        go_simp
        with_reducible rfl
      rotate_left
      · simp only [Act.put, List.setIfInBounds_toArray, List.set_cons_zero, List.set_cons_succ, i64_w, i32_w]
        rfl
      refine pure_ (i := 16) (N := some 99) (v := ?_) (a' := ?_) #[true, true, true, true, true, true, true, true, true, true, true, true, true, true, true, true, true] rfl rfl (by kernel_rfl) (fun _ _ _ h => h) (Or.inl ⟨by rfl, ?_⟩) ?_ ?_
      rotate_left
      · intro w'
        go_simp
        with_reducible rfl
      rotate_left
      · simp only [Act.put, List.setIfInBounds_toArray, List.set_cons_zero, List.set_cons_succ, i64_w, i32_w]
        rfl
      refine done_ (by kernel_rfl) ?_
      by_cases he0 : er = 0
      · subst he0
        have hee0 : ((0 : Int) != 0) = false := by simp
        have hlt3 : a < a1 := by
          rcases HST.out with h | h
          · exact absurd rfl h
          · exact h
        go_wp2
        go_roundw
        case rel => exact ⟨j + 1, a1, by go_num, by omega, ha1, HI8, HQ8, HB8⟩
        case measure => simp [intOf]; omega
      · have hee0 : (er != 0) = true := bne_iff_ne.2 he0
        go_wp2
        go_meet
        exact HB8
  case rest =>
    clear HI5 HQ5 HB5 RSG
    have HBC := Aside0.mk hcut.out
    clear hcut
    obtain ⟨gw, hgw⟩ : ∃ gw, wc.heap.size = gw := ⟨_, rfl⟩
    have HNW := Aside0.mk ((IsBW.new w3.heap.size wc HBC.out.size).alloc (.cells #[.slice none 0 0] 50))
    have HNQ := Aside0.mk (IsRW.new w3.heap.size (wc.alloc (.cells #[.slice none 0 0, .int .i64 0] 38)) (by have := HBC.out.size; simp; omega))
    have HB2 := Aside0.mk (below_alloc (below_alloc HBC.out (.cells #[.slice none 0 0, .int .i64 0] 38)) (.cells #[.slice none 0 0] 50))
    simp only [World.size_alloc] at HNQ
    rw [hgw] at HNW HNQ
    go_wp2
    go_loopw [109] (fun v109 wr => ∃ (j N len : Nat) (u1 u2 : Value), v109 = .int .i64 j ∧ j ≤ sg.length ∧ Aside0 (len ≤ 15 * j) ∧ Aside0 (Two w3.heap.size wr gw (gw + 1) u1 u2 N len) ∧ Aside0 (Below w3.heap.size w3 wr))
      (fun v109 _ => sg.length - (intOf v109).toNat)
    case atStart =>
      exact ⟨0, 0, 0, _, _, rfl, by omega, ⟨by omega⟩, ⟨⟨HNW.out, HNQ.out, fun k hk => by simp [Value.ownBlock] at hk⟩⟩, HB2⟩
    case round =>
      clear HNW HNQ HB2 HBC
      obtain ⟨j, N, len, u1, u2, rfl, hj, HLEN, HTW, HB⟩ := hrel
      by_cases hlt : j < sg.length
      · have hdj : decide (j < sg.length) = true := decide_eq_true hlt
        obtain ⟨ad2, hA2, hx⟩ := Kd.at_int HC2.out (j : Int) (by omega) (by omega)
        cases hA2
        replace hx := ((below_step HB3.out HB.out).cell (World.block_lt_of_cell? w _ hx)).trans hx
        simp only [Int.toNat_natCast] at hx
        obtain ⟨x, hxv⟩ : ∃ x, rd sg (j : Int) = x := ⟨_, rfl⟩
        rw [hxv] at hx
        clear hxv
        have hlj : len ≤ 1500 := by have := HLEN.out; omega
        by_cases hword : 0 ≤ x ∧ x < l.length ∧ 0 < (nat l).getD x.toNat 0
        · obtain ⟨k, rfl⟩ : ∃ k : Nat, x = (k : Int) := ⟨x.toNat, by omega⟩
          have hkl : k < l.length := by omega
          have hkl2 : decide (k < l.length) = true := decide_eq_true hkl
          have hkn : k < (nat l).length := by rw [nat_len]; exact hkl
          have hp := hword.2.2
          rw [Int.toNat_natCast] at hp
          obtain ⟨e1, e2⟩ := HK.out.at_ k hkl
          have hgd : (nat l).getD k 0 = (nat l)[k]'hkn := by rw [List.getD_eq_getElem?_getD, List.getElem?_eq_getElem hkn]; rfl
          have HPC := Aside0.mk (fun (v : Value) (N len : Nat) (W : World) hB hI hl => put_calls p w3.heap.size gw k v N len l _ w3 W HK.out HP.out hB hkl (by rw [← hgd]; exact hp) hI (Nat.le_refl _) hl)
          have HQC := Aside0.mk (fun (v : Value) (N len : Nat) (W : World) hB hI hl => RPC.out (gw + 1) k v N len W hB hkn hp (by rw [hgd]; exact e2) hI hl)
          obtain ⟨ad3, hA3, hz⟩ := Kd.at_string HWC.out (k : Int) (by omega) (by omega)
          cases hA3
          have hgz : rdOf ByteArray.empty ws (k : Int) = wordT (nat l) k := by unfold rdOf; rw [Int.toNat_natCast]; exact HF0.out.2 k hkn
          rw [hgz] at hz
          simp only [Int.toNat_natCast] at hz
          have hws := wordT_size (nat l) k
          have HLC := Aside0.mk (fun (W : World) (hB : Below w3.heap.size w3 W) => length_calls p (k : Int) l _ W HK.out (HP.out.below hB))
          rw [if_pos (by omega), Int.toNat_natCast, e1] at HLC
          obtain ⟨wk, hwk⟩ : ∃ wk, wordT (nat l) k = wk := ⟨_, rfl⟩
          obtain ⟨n0, hn0⟩ : ∃ n0, (nat l)[k]'hkn = n0 := ⟨_, rfl⟩
          rw [hwk] at hz hws
          rw [hgd, hn0] at hws hp HQC
          rw [hn0] at HPC HLC e2
          have HWX := Aside0.mk (fun (W : World) (hB : Below w3.heap.size w3 W) => (hB.cell (World.block_lt_of_cell? w3 _ hz)).trans hz)
          clear hgz hz hgd e1 hword hwk hn0
          have hp2 : decide (0 < n0) = true := decide_eq_true hp
          have hp3 : decide ((0 : Int) < (n0 : Int)) = true := decide_eq_true (by omega)
          have hq1 : ((n0 : Int) != (wk.size : Int)) = false := by rw [hws]; simp
          have hq2 : (n0 != wk.size) = false := by rw [hws]; simp
          have hz0 : ((0 : Int) != 0) = false := by decide
          go_upto_region 22 with (fail)
          refine start_ (n := 26) (S := fun w' => w'.cell? (ad3.add k) = some (.string wk)) (ds := []) #[false, false, false, false, false, false, false, false, false, false, false, false, false, false, false, false, false, false, false, false, false, false, false, false, false, false] (by kernel_rfl) rfl rfl ((HWX.out _ (below_drew1 HB.out))) (fun hHeld => ?_)
          refine pure_ (i := 0) (N := some 113) (v := ?_) (a' := ?_) #[true, false, false, false, false, false, false, false, false, false, false, false, false, false, false, false, false, false, false, false, false, false, false, false, false, false] rfl rfl (by kernel_rfl) (fun _ _ _ h => h) (Or.inl ⟨by rfl, ?_⟩) ?_ ?_
          rotate_left
          · intro w'
            go_simp
            with_reducible rfl
          rotate_left
          · simp only [Act.put, List.setIfInBounds_toArray, List.set_cons_zero, List.set_cons_succ, i64_w, i32_w]
            rfl
          refine pure_ (i := 1) (N := some 114) (v := ?_) (a' := ?_) #[true, true, false, false, false, false, false, false, false, false, false, false, false, false, false, false, false, false, false, false, false, false, false, false, false, false] rfl rfl (by kernel_rfl) (fun _ _ _ h => h) (Or.inl ⟨by rfl, ?_⟩) ?_ ?_
          rotate_left
          · intro w'
            go_simp
            with_reducible rfl
          rotate_left
          · simp only [Act.put, List.setIfInBounds_toArray, List.set_cons_zero, List.set_cons_succ, i64_w, i32_w]
            rfl
          refine pure_ (i := 2) (N := some 115) (v := ?_) (a' := ?_) #[true, true, true, false, false, false, false, false, false, false, false, false, false, false, false, false, false, false, false, false, false, false, false, false, false, false] rfl rfl (by kernel_rfl) (fun _ _ _ h => h) (Or.inl ⟨by rfl, ?_⟩) ?_ ?_
          rotate_left
          · intro w'
            go_simp
            with_reducible rfl
          rotate_left
          · simp only [Act.put, List.setIfInBounds_toArray, List.set_cons_zero, List.set_cons_succ, i64_w, i32_w]
            rfl
          refine pure_ (i := 4) (N := some 117) (v := ?_) (a' := ?_) #[true, true, true, false, true, false, false, false, false, false, false, false, false, false, false, false, false, false, false, false, false, false, false, false, false, false] rfl rfl (by kernel_rfl) (fun _ _ _ h => h) (Or.inl ⟨by rfl, ?_⟩) ?_ ?_
          rotate_left
          · intro w'
            go_simp
            with_reducible rfl
          rotate_left
          · simp only [Act.put, List.setIfInBounds_toArray, List.set_cons_zero, List.set_cons_succ, i64_w, i32_w]
            rfl
          refine pure_ (i := 5) (N := some 118) (v := ?_) (a' := ?_) #[true, true, true, false, true, true, false, false, false, false, false, false, false, false, false, false, false, false, false, false, false, false, false, false, false, false] rfl rfl (by kernel_rfl) (fun _ _ _ h => h) (Or.inl ⟨by rfl, ?_⟩) ?_ ?_
          rotate_left
          · intro w'
            go_simp
            with_reducible rfl
          rotate_left
          · simp only [Act.put, List.setIfInBounds_toArray, List.set_cons_zero, List.set_cons_succ, i64_w, i32_w]
            rfl
          refine pure_ (i := 6) (N := some 119) (v := ?_) (a' := ?_) #[true, true, true, false, true, true, true, false, false, false, false, false, false, false, false, false, false, false, false, false, false, false, false, false, false, false] rfl rfl (by kernel_rfl) (fun _ _ _ h => h) (Or.inl ⟨by rfl, ?_⟩) ?_ ?_
          rotate_left
          · intro w'
            go_simp
            with_reducible rfl
          rotate_left
          · simp only [Act.put, List.setIfInBounds_toArray, List.set_cons_zero, List.set_cons_succ, i64_w, i32_w]
            rfl
          refine one_ (i := 3) (N := some 116) #[true, true, true, true, true, true, true, false, false, false, false, false, false, false, false, false, false, false, false, false, false, false, false, false, false, false] rfl rfl (by kernel_rfl) (by decide) (fun K hK => ?_)
          refine goes_ Try.func13 (by kernel_rfl) rfl #[.pointer (some ⟨p, 0, none⟩), .pointer (some ⟨gw, 0, none⟩), .int .i64 (k : Int)] (by rfl) rfl rfl (by simp only [List.map_toArray, List.map_cons, List.map_nil]; rfl) ?_
          with_reducible refine (HPC.out u1 N len _ (below_drew1 HB.out) (bw_drew HTW.out.a) (by omega)).mono ?_
          rintro e w6 ⟨rfl, v6, hi, hw⟩
          refine ⟨_, rfl, ?_⟩
          have HW6 := Aside0.mk hi; have HQ6 := Aside0.mk (Two.fst (rw_drew HTW.out.b) (bw_drew HTW.out.a) HTW.out.apart hw); have HB6 := Aside0.mk ((bw_drew HTW.out.a).under hw (below_drew1 HB.out)); clear hi hw
          refine hK.out _ _ ((HWX.out _ HB6.out)) (fun hHeld => ?_)
          clear hK K
          refine norm_ (a' := ?_) ?_ ?_
          rotate_left
          · show Act.put _ (some 116) _ = _
            simp only [Act.put, List.setIfInBounds_toArray, List.set_cons_zero, List.set_cons_succ, i64_w, i32_w]
            rfl
          refine one_ (i := 7) (N := some 120) #[true, true, true, true, true, true, true, true, false, false, false, false, false, false, false, false, false, false, false, false, false, false, false, false, false, false] rfl rfl (by kernel_rfl) (by decide) (fun K hK => ?_)
          refine goes_ Try.func17 (by kernel_rfl) rfl #[.slice (some ad3) l.length c8, .pointer (some ⟨gw + 1, 0, none⟩), .int .i64 (k : Int)] (by rfl) rfl rfl (by simp only [List.map_toArray, List.map_cons, List.map_nil]; rfl) ?_
          with_reducible refine (HQC.out u2 N len _ HB6.out HQ6.out.1 (by omega)).mono ?_
          rintro e w7 ⟨rfl, v7, hi, hw⟩
          refine ⟨_, rfl, ?_⟩
          have HQ7 := Aside0.mk hi; have HWA := Aside0.mk (Two.snd HW6.out HQ6.out.1 HQ6.out.2 hw); have HW7 := Aside0.mk HWA.out.1; have HAP := Aside0.mk HWA.out.2; have HB7 := Aside0.mk (HQ6.out.1.under hw HB6.out); clear hi hw
          refine hK.out _ _ ((HWX.out _ HB7.out)) (fun hHeld => ?_)
          clear hK K
          refine norm_ (a' := ?_) ?_ ?_
          rotate_left
          · show Act.put _ (some 120) _ = _
            simp only [Act.put, List.setIfInBounds_toArray, List.set_cons_zero, List.set_cons_succ, i64_w, i32_w]
            rfl
          refine pure_ (i := 8) (N := some 121) (v := ?_) (a' := ?_) #[true, true, true, true, true, true, true, true, true, false, false, false, false, false, false, false, false, false, false, false, false, false, false, false, false, false] rfl rfl (by kernel_rfl) (fun _ _ _ h => h) (Or.inl ⟨by rfl, ?_⟩) ?_ ?_
          rotate_left
          · intro w'
            go_simp
            with_reducible rfl
          rotate_left
          · simp only [Act.put, List.setIfInBounds_toArray, List.set_cons_zero, List.set_cons_succ, i64_w, i32_w]
            rfl
          refine pure_ (i := 9) (N := some 122) (v := ?_) (a' := ?_) #[true, true, true, true, true, true, true, true, true, true, false, false, false, false, false, false, false, false, false, false, false, false, false, false, false, false] rfl rfl (by kernel_rfl) (fun _ _ _ h => h) (Or.inl ⟨by rfl, ?_⟩) ?_ ?_
          rotate_left
          · intro w'
            go_simp
            with_reducible rfl
          rotate_left
          · simp only [Act.put, List.setIfInBounds_toArray, List.set_cons_zero, List.set_cons_succ, i64_w, i32_w]
            rfl
          refine pure_ (i := 10) (N := some 123) (v := ?_) (a' := ?_) #[true, true, true, true, true, true, true, true, true, true, true, false, false, false, false, false, false, false, false, false, false, false, false, false, false, false] rfl rfl (by kernel_rfl) (fun _ _ _ h => h) (Or.inl ⟨by rfl, ?_⟩) ?_ ?_
          rotate_left
          · intro w'
            go_simp
            with_reducible rfl
          rotate_left
          · simp only [Act.put, List.setIfInBounds_toArray, List.set_cons_zero, List.set_cons_succ, i64_w, i32_w]
            rfl
          refine pure_ (i := 11) (N := some 124) (v := ?_) (a' := ?_) #[true, true, true, true, true, true, true, true, true, true, true, true, false, false, false, false, false, false, false, false, false, false, false, false, false, false] rfl rfl (by kernel_rfl) (fun _ _ _ h => h) (Or.inl ⟨by rfl, ?_⟩) ?_ ?_
          rotate_left
          · intro w'
            go_simp
            with_reducible rfl
          rotate_left
          · simp only [Act.put, List.setIfInBounds_toArray, List.set_cons_zero, List.set_cons_succ, i64_w, i32_w]
            rfl
          refine one_ (i := 12) (N := some 125) #[true, true, true, true, true, true, true, true, true, true, true, true, true, false, false, false, false, false, false, false, false, false, false, false, false, false] rfl rfl (by kernel_rfl) (by decide) (fun K hK => ?_)
          refine goes_ Try.func12 (by kernel_rfl) rfl #[.pointer (some ⟨p, 0, none⟩), .int .i64 (k : Int)] (by rfl) rfl rfl (by simp only [List.map_toArray, List.map_cons, List.map_nil]; rfl) ?_
          with_reducible refine (HLC.out _ HB7.out).mono ?_
          rintro e w8 ⟨rfl, hb⟩
          refine ⟨_, rfl, ?_⟩
          have HW8 := Aside0.mk (HW7.out.below hb); have HQ8 := Aside0.mk (HQ7.out.below hb); have HB8 := Aside0.mk (below_step HB7.out hb); clear hb
          refine hK.out _ _ ((HWX.out _ HB8.out)) (fun hHeld => ?_)
          clear hK K
          refine norm_ (a' := ?_) ?_ ?_
          rotate_left
          · show Act.put _ (some 125) _ = _
            simp only [Act.put, List.setIfInBounds_toArray, List.set_cons_zero, List.set_cons_succ, i64_w, i32_w]
            rfl
          refine pure_ (i := 13) (N := some 126) (v := ?_) (a' := ?_) #[true, true, true, true, true, true, true, true, true, true, true, true, true, true, false, false, false, false, false, false, false, false, false, false, false, false] rfl rfl (by kernel_rfl) (fun _ _ _ h => h) (Or.inl ⟨by rfl, ?_⟩) ?_ ?_
          rotate_left
          · intro w'
            go_simp
            with_reducible rfl
          rotate_left
          · simp only [Act.put, List.setIfInBounds_toArray, List.set_cons_zero, List.set_cons_succ, i64_w, i32_w]
            rfl
          refine pure_ (i := 14) (N := some 127) (v := ?_) (a' := ?_) #[true, true, true, true, true, true, true, true, true, true, true, true, true, true, true, false, false, false, false, false, false, false, false, false, false, false] rfl rfl (by kernel_rfl) (fun _ _ _ h => h) (Or.inl ⟨by rfl, ?_⟩) ?_ ?_
          rotate_left
          · intro w'
            go_simp
            with_reducible rfl
          rotate_left
          · simp only [Act.put, List.setIfInBounds_toArray, List.set_cons_zero, List.set_cons_succ, i64_w, i32_w]
            rfl
          refine pure_ (i := 15) (N := some 128) (v := ?_) (a' := ?_) #[true, true, true, true, true, true, true, true, true, true, true, true, true, true, true, true, false, false, false, false, false, false, false, false, false, false] rfl rfl (by kernel_rfl) (fun _ _ _ h => h) (Or.inl ⟨by rfl, ?_⟩) ?_ ?_
          rotate_left
          · intro w'
            go_simp
            with_reducible rfl
          rotate_left
          · simp only [Act.put, List.setIfInBounds_toArray, List.set_cons_zero, List.set_cons_succ, i64_w, i32_w]
            rfl
          refine pure_ (i := 16) (N := some 129) (v := ?_) (a' := ?_) #[true, true, true, true, true, true, true, true, true, true, true, true, true, true, true, true, true, false, false, false, false, false, false, false, false, false] rfl rfl (by kernel_rfl) (fun _ _ _ h => h) (Or.inl ⟨by rfl, ?_⟩) ?_ ?_
          rotate_left
          · intro w'
            go_simp
            with_reducible rfl
          rotate_left
          · simp only [Act.put, List.setIfInBounds_toArray, List.set_cons_zero, List.set_cons_succ, i64_w, i32_w]
            rfl
          refine pure_ (i := 18) (N := some 131) (v := ?_) (a' := ?_) #[true, true, true, true, true, true, true, true, true, true, true, true, true, true, true, true, true, false, true, false, false, false, false, false, false, false] rfl rfl (by kernel_rfl) (fun _ _ _ h => h) (Or.inl ⟨by rfl, ?_⟩) ?_ ?_
          rotate_left
          · intro w'
            go_simp
            with_reducible rfl
          rotate_left
          · simp only [Act.put, List.setIfInBounds_toArray, List.set_cons_zero, List.set_cons_succ, i64_w, i32_w]
            rfl
          refine pure_ (i := 19) (N := some 132) (v := ?_) (a' := ?_) #[true, true, true, true, true, true, true, true, true, true, true, true, true, true, true, true, true, false, true, true, false, false, false, false, false, false] rfl rfl (by kernel_rfl) (fun _ _ _ h => h) (Or.inl ⟨by rfl, ?_⟩) ?_ ?_
          rotate_left
          · intro w'
            go_simp
            with_reducible rfl
          rotate_left
          · simp only [Act.put, List.setIfInBounds_toArray, List.set_cons_zero, List.set_cons_succ, i64_w, i32_w]
            rfl
          refine pure_ (i := 20) (N := some 133) (v := ?_) (a' := ?_) #[true, true, true, true, true, true, true, true, true, true, true, true, true, true, true, true, true, false, true, true, true, false, false, false, false, false] rfl rfl (by kernel_rfl) (fun _ _ _ h => h) (Or.inl ⟨by rfl, ?_⟩) ?_ ?_
          rotate_left
          · intro w'
            go_simp
            with_reducible rfl
          rotate_left
          · simp only [Act.put, List.setIfInBounds_toArray, List.set_cons_zero, List.set_cons_succ, i64_w, i32_w]
            rfl
          refine take_ (i := 21) (N := some 134) (v := ?_) (a' := ?_) #[true, true, true, true, true, true, true, true, true, true, true, true, true, true, true, true, true, false, true, true, true, true, false, false, false, false] rfl rfl (by kernel_rfl) (fun _ _ _ h => h) (Or.inl ⟨by rfl, ?_⟩) hHeld ?_ ?_
          rotate_left
          · intro w' s0
            go_simp
            with_reducible rfl
          rotate_left
          · simp only [Act.put, List.setIfInBounds_toArray, List.set_cons_zero, List.set_cons_succ, i64_w, i32_w]
            rfl
          refine pure_ (i := 22) (N := some 135) (v := ?_) (a' := ?_) #[true, true, true, true, true, true, true, true, true, true, true, true, true, true, true, true, true, false, true, true, true, true, true, false, false, false] rfl rfl (by kernel_rfl) (fun _ _ _ h => h) (Or.inl ⟨by rfl, ?_⟩) ?_ ?_
          rotate_left
          · intro w'
            go_simp
            with_reducible rfl
          rotate_left
          · simp only [Act.put, List.setIfInBounds_toArray, List.set_cons_zero, List.set_cons_succ, i64_w, i32_w]
            rfl
          refine one_ (i := 17) (N := some 130) #[true, true, true, true, true, true, true, true, true, true, true, true, true, true, true, true, true, true, true, true, true, true, true, false, false, false] rfl rfl (by kernel_rfl) (by decide) (fun K hK => ?_)
          refine goes_ Try.func12 (by kernel_rfl) rfl #[.pointer (some ⟨p, 0, none⟩), .int .i64 (k : Int)] (by rfl) rfl rfl (by simp only [List.map_toArray, List.map_cons, List.map_nil]; rfl) ?_
          with_reducible refine (HLC.out _ HB8.out).mono ?_
          rintro e w9 ⟨rfl, hb⟩
          refine ⟨_, rfl, ?_⟩
          have HW9 := Aside0.mk (HW8.out.below hb); have HQ9 := Aside0.mk (HQ8.out.below hb); have HB9 := Aside0.mk (below_step HB8.out hb); clear hb
          refine hK.out _ _ ((HWX.out _ HB9.out)) (fun hHeld => ?_)
          clear hK K
          refine norm_ (a' := ?_) ?_ ?_
          rotate_left
          · show Act.put _ (some 130) _ = _
            simp only [Act.put, List.setIfInBounds_toArray, List.set_cons_zero, List.set_cons_succ, i64_w, i32_w]
            rfl
          refine pure_ (i := 23) (N := some 136) (v := ?_) (a' := ?_) #[true, true, true, true, true, true, true, true, true, true, true, true, true, true, true, true, true, true, true, true, true, true, true, true, false, false] rfl rfl (by kernel_rfl) (fun _ _ _ h => h) (Or.inl ⟨by rfl, ?_⟩) ?_ ?_
          rotate_left
          · intro w'
            go_simp
            with_reducible rfl
          rotate_left
          · simp only [Act.put, List.setIfInBounds_toArray, List.set_cons_zero, List.set_cons_succ, i64_w, i32_w]
            rfl
          refine pure_ (i := 24) (N := some 137) (v := ?_) (a' := ?_) #[true, true, true, true, true, true, true, true, true, true, true, true, true, true, true, true, true, true, true, true, true, true, true, true, true, false] rfl rfl (by kernel_rfl) (fun _ _ _ h => h) (Or.inl ⟨by rfl, ?_⟩) ?_ ?_
          rotate_left
          · intro w'
            go_simp
            with_reducible rfl
          rotate_left
          · simp only [Act.put, List.setIfInBounds_toArray, List.set_cons_zero, List.set_cons_succ, i64_w, i32_w]
            rfl
          refine pure_ (i := 25) (N := some 138) (v := ?_) (a' := ?_) #[true, true, true, true, true, true, true, true, true, true, true, true, true, true, true, true, true, true, true, true, true, true, true, true, true, true] rfl rfl (by kernel_rfl) (fun _ _ _ h => h) (Or.inl ⟨by rfl, ?_⟩) ?_ ?_
          rotate_left
          · intro w'
            go_simp
            with_reducible rfl
          rotate_left
          · simp only [Act.put, List.setIfInBounds_toArray, List.set_cons_zero, List.set_cons_succ, i64_w, i32_w]
            rfl
          refine done_ (by kernel_rfl) ?_
          go_wp2
          go_roundw
          case rel => exact ⟨j + 1, _, _, _, _, by go_num, by omega, ⟨by have := HLEN.out; omega⟩, ⟨⟨HW9.out, HQ9.out, HAP.out⟩⟩, HB9⟩
          case measure => simp [intOf]; omega
        · have hno : x < 0 ∨ (l.length : Int) ≤ x ∨ (nat l).getD x.toNat 0 = 0 := by omega
          have hno3 : x < 0 ∨ (l.length : Int) ≤ x ∨ l.getD x.toNat 0 = 0 := by
            rcases hno with h | h | h
            · exact .inl h
            · exact .inr (.inl h)
            · by_cases hx0 : x < 0
              · exact .inl hx0
              by_cases hx1 : (l.length : Int) ≤ x
              · exact .inr (.inl hx1)
              have hxl : x.toNat < l.length := by omega
              obtain ⟨e1, _⟩ := HK.out.at_ x.toNat hxl
              rw [List.getD_eq_getElem?_getD, List.getElem?_eq_getElem (by rw [nat_len]; exact hxl)] at h
              rw [e1]
              exact .inr (.inr (by simpa using h))
          have HLC := Aside0.mk (fun (W : World) (hB : Below w3.heap.size w3 W) => length_calls p x l _ W HK.out (HP.out.below hB))
          rw [show (if 0 ≤ x ∧ x < l.length then l.getD x.toNat 0 else 0) = 0 by split <;> omega] at HLC
          have HPC := Aside0.mk (fun (W : World) (hB : Below w3.heap.size w3 W) => put_none p gw x l _ W HK.out (HP.out.below hB) hno3)
          have HQC := Aside0.mk (fun (W : World) (hB : Below w3.heap.size w3 W) => RPN.out (gw + 1) x W hB (by rw [nat_len]; exact hno))
          clear hno hno3 hword
          have hz2 : ((2 : Int) != 2) = false := by decide
          have hz0 : decide ((0 : Int) < 0) = false := by decide
          go_upto_region 22 with (fail)
          refine start_ (n := 26) (S := fun w' => True) (ds := []) #[false, false, false, false, false, false, false, false, false, false, false, false, false, false, false, false, false, false, false, false, false, false, false, false, false, false] (by kernel_rfl) rfl rfl trivial (fun hHeld => ?_)
          refine pure_ (i := 0) (N := some 113) (v := ?_) (a' := ?_) #[true, false, false, false, false, false, false, false, false, false, false, false, false, false, false, false, false, false, false, false, false, false, false, false, false, false] rfl rfl (by kernel_rfl) (fun _ _ _ h => h) (Or.inl ⟨by rfl, ?_⟩) ?_ ?_
          rotate_left
          · intro w'
            go_simp
            with_reducible rfl
          rotate_left
          · simp only [Act.put, List.setIfInBounds_toArray, List.set_cons_zero, List.set_cons_succ, i64_w, i32_w]
            rfl
          refine pure_ (i := 1) (N := some 114) (v := ?_) (a' := ?_) #[true, true, false, false, false, false, false, false, false, false, false, false, false, false, false, false, false, false, false, false, false, false, false, false, false, false] rfl rfl (by kernel_rfl) (fun _ _ _ h => h) (Or.inl ⟨by rfl, ?_⟩) ?_ ?_
          rotate_left
          · intro w'
            go_simp
            with_reducible rfl
          rotate_left
          · simp only [Act.put, List.setIfInBounds_toArray, List.set_cons_zero, List.set_cons_succ, i64_w, i32_w]
            rfl
          refine pure_ (i := 2) (N := some 115) (v := ?_) (a' := ?_) #[true, true, true, false, false, false, false, false, false, false, false, false, false, false, false, false, false, false, false, false, false, false, false, false, false, false] rfl rfl (by kernel_rfl) (fun _ _ _ h => h) (Or.inl ⟨by rfl, ?_⟩) ?_ ?_
          rotate_left
          · intro w'
            go_simp
            with_reducible rfl
          rotate_left
          · simp only [Act.put, List.setIfInBounds_toArray, List.set_cons_zero, List.set_cons_succ, i64_w, i32_w]
            rfl
          refine pure_ (i := 4) (N := some 117) (v := ?_) (a' := ?_) #[true, true, true, false, true, false, false, false, false, false, false, false, false, false, false, false, false, false, false, false, false, false, false, false, false, false] rfl rfl (by kernel_rfl) (fun _ _ _ h => h) (Or.inl ⟨by rfl, ?_⟩) ?_ ?_
          rotate_left
          · intro w'
            go_simp
            with_reducible rfl
          rotate_left
          · simp only [Act.put, List.setIfInBounds_toArray, List.set_cons_zero, List.set_cons_succ, i64_w, i32_w]
            rfl
          refine pure_ (i := 5) (N := some 118) (v := ?_) (a' := ?_) #[true, true, true, false, true, true, false, false, false, false, false, false, false, false, false, false, false, false, false, false, false, false, false, false, false, false] rfl rfl (by kernel_rfl) (fun _ _ _ h => h) (Or.inl ⟨by rfl, ?_⟩) ?_ ?_
          rotate_left
          · intro w'
            go_simp
            with_reducible rfl
          rotate_left
          · simp only [Act.put, List.setIfInBounds_toArray, List.set_cons_zero, List.set_cons_succ, i64_w, i32_w]
            rfl
          refine pure_ (i := 6) (N := some 119) (v := ?_) (a' := ?_) #[true, true, true, false, true, true, true, false, false, false, false, false, false, false, false, false, false, false, false, false, false, false, false, false, false, false] rfl rfl (by kernel_rfl) (fun _ _ _ h => h) (Or.inl ⟨by rfl, ?_⟩) ?_ ?_
          rotate_left
          · intro w'
            go_simp
            with_reducible rfl
          rotate_left
          · simp only [Act.put, List.setIfInBounds_toArray, List.set_cons_zero, List.set_cons_succ, i64_w, i32_w]
            rfl
          refine one_ (i := 3) (N := some 116) #[true, true, true, true, true, true, true, false, false, false, false, false, false, false, false, false, false, false, false, false, false, false, false, false, false, false] rfl rfl (by kernel_rfl) (by decide) (fun K hK => ?_)
          refine goes_ Try.func13 (by kernel_rfl) rfl #[.pointer (some ⟨p, 0, none⟩), .pointer (some ⟨gw, 0, none⟩), .int .i64 x] (by rfl) rfl rfl (by simp only [List.map_toArray, List.map_cons, List.map_nil]; rfl) ?_
          with_reducible refine (HPC.out _ (below_drew1 HB.out)).mono ?_
          rintro e w6 ⟨rfl, hb⟩
          refine ⟨_, rfl, ?_⟩
          have HW6 := Aside0.mk ((bw_drew HTW.out.a).below hb); have HQ6 := Aside0.mk ((rw_drew HTW.out.b).below hb); have HAP := Aside0.mk HTW.out.apart; have HB6 := Aside0.mk (below_step (below_drew1 HB.out) hb); clear hb
          refine hK.out _ _ trivial (fun hHeld => ?_)
          clear hK K
          refine norm_ (a' := ?_) ?_ ?_
          rotate_left
          · show Act.put _ (some 116) _ = _
            simp only [Act.put, List.setIfInBounds_toArray, List.set_cons_zero, List.set_cons_succ, i64_w, i32_w]
            rfl
          refine one_ (i := 7) (N := some 120) #[true, true, true, true, true, true, true, true, false, false, false, false, false, false, false, false, false, false, false, false, false, false, false, false, false, false] rfl rfl (by kernel_rfl) (by decide) (fun K hK => ?_)
          refine goes_ Try.func17 (by kernel_rfl) rfl #[.slice A8 l.length c8, .pointer (some ⟨gw + 1, 0, none⟩), .int .i64 x] (by rfl) rfl rfl (by simp only [List.map_toArray, List.map_cons, List.map_nil]; rfl) ?_
          with_reducible refine (HQC.out _ HB6.out).mono ?_
          rintro e w7 ⟨rfl, hb⟩
          refine ⟨_, rfl, ?_⟩
          have HW7 := Aside0.mk (HW6.out.below hb); have HQ7 := Aside0.mk (HQ6.out.below hb); have HB7 := Aside0.mk (below_step HB6.out hb); clear hb
          refine hK.out _ _ trivial (fun hHeld => ?_)
          clear hK K
          refine norm_ (a' := ?_) ?_ ?_
          rotate_left
          · show Act.put _ (some 120) _ = _
            simp only [Act.put, List.setIfInBounds_toArray, List.set_cons_zero, List.set_cons_succ, i64_w, i32_w]
            rfl
          refine pure_ (i := 8) (N := some 121) (v := ?_) (a' := ?_) #[true, true, true, true, true, true, true, true, true, false, false, false, false, false, false, false, false, false, false, false, false, false, false, false, false, false] rfl rfl (by kernel_rfl) (fun _ _ _ h => h) (Or.inl ⟨by rfl, ?_⟩) ?_ ?_
          rotate_left
          · intro w'
            go_simp
            with_reducible rfl
          rotate_left
          · simp only [Act.put, List.setIfInBounds_toArray, List.set_cons_zero, List.set_cons_succ, i64_w, i32_w]
            rfl
          refine pure_ (i := 9) (N := some 122) (v := ?_) (a' := ?_) #[true, true, true, true, true, true, true, true, true, true, false, false, false, false, false, false, false, false, false, false, false, false, false, false, false, false] rfl rfl (by kernel_rfl) (fun _ _ _ h => h) (Or.inl ⟨by rfl, ?_⟩) ?_ ?_
          rotate_left
          · intro w'
            go_simp
            with_reducible rfl
          rotate_left
          · simp only [Act.put, List.setIfInBounds_toArray, List.set_cons_zero, List.set_cons_succ, i64_w, i32_w]
            rfl
          refine pure_ (i := 10) (N := some 123) (v := ?_) (a' := ?_) #[true, true, true, true, true, true, true, true, true, true, true, false, false, false, false, false, false, false, false, false, false, false, false, false, false, false] rfl rfl (by kernel_rfl) (fun _ _ _ h => h) (Or.inl ⟨by rfl, ?_⟩) ?_ ?_
          rotate_left
          · intro w'
            go_simp
            with_reducible rfl
          rotate_left
          · simp only [Act.put, List.setIfInBounds_toArray, List.set_cons_zero, List.set_cons_succ, i64_w, i32_w]
            rfl
          refine pure_ (i := 11) (N := some 124) (v := ?_) (a' := ?_) #[true, true, true, true, true, true, true, true, true, true, true, true, false, false, false, false, false, false, false, false, false, false, false, false, false, false] rfl rfl (by kernel_rfl) (fun _ _ _ h => h) (Or.inl ⟨by rfl, ?_⟩) ?_ ?_
          rotate_left
          · intro w'
            go_simp
            with_reducible rfl
          rotate_left
          · simp only [Act.put, List.setIfInBounds_toArray, List.set_cons_zero, List.set_cons_succ, i64_w, i32_w]
            rfl
          refine one_ (i := 12) (N := some 125) #[true, true, true, true, true, true, true, true, true, true, true, true, true, false, false, false, false, false, false, false, false, false, false, false, false, false] rfl rfl (by kernel_rfl) (by decide) (fun K hK => ?_)
          refine goes_ Try.func12 (by kernel_rfl) rfl #[.pointer (some ⟨p, 0, none⟩), .int .i64 x] (by rfl) rfl rfl (by simp only [List.map_toArray, List.map_cons, List.map_nil]; rfl) ?_
          with_reducible refine (HLC.out _ HB7.out).mono ?_
          rintro e w8 ⟨rfl, hb⟩
          refine ⟨_, rfl, ?_⟩
          have HW8 := Aside0.mk (HW7.out.below hb); have HQ8 := Aside0.mk (HQ7.out.below hb); have HB8 := Aside0.mk (below_step HB7.out hb); clear hb
          refine hK.out _ _ trivial (fun hHeld => ?_)
          clear hK K
          refine norm_ (a' := ?_) ?_ ?_
          rotate_left
          · show Act.put _ (some 125) _ = _
            simp only [Act.put, List.setIfInBounds_toArray, List.set_cons_zero, List.set_cons_succ, i64_w, i32_w]
            rfl
          refine pure_ (i := 13) (N := some 126) (v := ?_) (a' := ?_) #[true, true, true, true, true, true, true, true, true, true, true, true, true, true, false, false, false, false, false, false, false, false, false, false, false, false] rfl rfl (by kernel_rfl) (fun _ _ _ h => h) (Or.inl ⟨by rfl, ?_⟩) ?_ ?_
          rotate_left
          · intro w'
            go_simp
            with_reducible rfl
          rotate_left
          · simp only [Act.put, List.setIfInBounds_toArray, List.set_cons_zero, List.set_cons_succ, i64_w, i32_w]
            rfl
          refine pure_ (i := 14) (N := some 127) (v := ?_) (a' := ?_) #[true, true, true, true, true, true, true, true, true, true, true, true, true, true, true, false, false, false, false, false, false, false, false, false, false, false] rfl rfl (by kernel_rfl) (fun _ _ _ h => h) (Or.inl ⟨by rfl, ?_⟩) ?_ ?_
          rotate_left
          · intro w'
            go_simp
            with_reducible rfl
          rotate_left
          · simp only [Act.put, List.setIfInBounds_toArray, List.set_cons_zero, List.set_cons_succ, i64_w, i32_w]
            rfl
          refine pure_ (i := 15) (N := some 128) (v := undef) (a' := ?_) #[true, true, true, true, true, true, true, true, true, true, true, true, true, true, true, true, false, false, false, false, false, false, false, false, false, false] rfl rfl (by kernel_rfl) (fun _ _ _ h => h) (Or.inr ⟨by rfl, rfl⟩) ?_ ?_
          rotate_left
          · simp only [Act.put, List.setIfInBounds_toArray, List.set_cons_zero, List.set_cons_succ, i64_w, i32_w]
            rfl
          refine pure_ (i := 16) (N := some 129) (v := undef) (a' := ?_) #[true, true, true, true, true, true, true, true, true, true, true, true, true, true, true, true, true, false, false, false, false, false, false, false, false, false] rfl rfl (by kernel_rfl) (fun _ _ _ h => h) (Or.inr ⟨by rfl, rfl⟩) ?_ ?_
          rotate_left
          · simp only [Act.put, List.setIfInBounds_toArray, List.set_cons_zero, List.set_cons_succ, i64_w, i32_w]
            rfl
          refine pure_ (i := 17) (N := some 130) (v := undef) (a' := ?_) #[true, true, true, true, true, true, true, true, true, true, true, true, true, true, true, true, true, true, false, false, false, false, false, false, false, false] rfl rfl (by kernel_rfl) (fun _ _ _ h => h) (Or.inr ⟨by rfl, rfl⟩) ?_ ?_
          rotate_left
          · simp only [Act.put, List.setIfInBounds_toArray, List.set_cons_zero, List.set_cons_succ, i64_w, i32_w]
            rfl
          refine pure_ (i := 18) (N := some 131) (v := undef) (a' := ?_) #[true, true, true, true, true, true, true, true, true, true, true, true, true, true, true, true, true, true, true, false, false, false, false, false, false, false] rfl rfl (by kernel_rfl) (fun _ _ _ h => h) (Or.inr ⟨by rfl, rfl⟩) ?_ ?_
          rotate_left
          · simp only [Act.put, List.setIfInBounds_toArray, List.set_cons_zero, List.set_cons_succ, i64_w, i32_w]
            rfl
          refine pure_ (i := 19) (N := some 132) (v := undef) (a' := ?_) #[true, true, true, true, true, true, true, true, true, true, true, true, true, true, true, true, true, true, true, true, false, false, false, false, false, false] rfl rfl (by kernel_rfl) (fun _ _ _ h => h) (Or.inr ⟨by rfl, rfl⟩) ?_ ?_
          rotate_left
          · simp only [Act.put, List.setIfInBounds_toArray, List.set_cons_zero, List.set_cons_succ, i64_w, i32_w]
            rfl
          refine pure_ (i := 20) (N := some 133) (v := undef) (a' := ?_) #[true, true, true, true, true, true, true, true, true, true, true, true, true, true, true, true, true, true, true, true, true, false, false, false, false, false] rfl rfl (by kernel_rfl) (fun _ _ _ h => h) (Or.inr ⟨by rfl, rfl⟩) ?_ ?_
          rotate_left
          · simp only [Act.put, List.setIfInBounds_toArray, List.set_cons_zero, List.set_cons_succ, i64_w, i32_w]
            rfl
          refine pure_ (i := 21) (N := some 134) (v := undef) (a' := ?_) #[true, true, true, true, true, true, true, true, true, true, true, true, true, true, true, true, true, true, true, true, true, true, false, false, false, false] rfl rfl (by kernel_rfl) (fun _ _ _ h => h) (Or.inr ⟨by rfl, rfl⟩) ?_ ?_
          rotate_left
          · simp only [Act.put, List.setIfInBounds_toArray, List.set_cons_zero, List.set_cons_succ, i64_w, i32_w]
            rfl
          refine pure_ (i := 22) (N := some 135) (v := undef) (a' := ?_) #[true, true, true, true, true, true, true, true, true, true, true, true, true, true, true, true, true, true, true, true, true, true, true, false, false, false] rfl rfl (by kernel_rfl) (fun _ _ _ h => h) (Or.inr ⟨by rfl, rfl⟩) ?_ ?_
          rotate_left
          · simp only [Act.put, List.setIfInBounds_toArray, List.set_cons_zero, List.set_cons_succ, i64_w, i32_w]
            rfl
          refine pure_ (i := 23) (N := some 136) (v := undef) (a' := ?_) #[true, true, true, true, true, true, true, true, true, true, true, true, true, true, true, true, true, true, true, true, true, true, true, true, false, false] rfl rfl (by kernel_rfl) (fun _ _ _ h => h) (Or.inr ⟨by rfl, rfl⟩) ?_ ?_
          rotate_left
          · simp only [Act.put, List.setIfInBounds_toArray, List.set_cons_zero, List.set_cons_succ, i64_w, i32_w]
            rfl
          refine pure_ (i := 24) (N := some 137) (v := ?_) (a' := ?_) #[true, true, true, true, true, true, true, true, true, true, true, true, true, true, true, true, true, true, true, true, true, true, true, true, true, false] rfl rfl (by kernel_rfl) (fun _ _ _ h => h) (Or.inl ⟨by rfl, ?_⟩) ?_ ?_
          rotate_left
          · intro w'
            go_simp
            with_reducible rfl
          rotate_left
          · simp only [Act.put, List.setIfInBounds_toArray, List.set_cons_zero, List.set_cons_succ, i64_w, i32_w]
            rfl
          refine pure_ (i := 25) (N := some 138) (v := ?_) (a' := ?_) #[true, true, true, true, true, true, true, true, true, true, true, true, true, true, true, true, true, true, true, true, true, true, true, true, true, true] rfl rfl (by kernel_rfl) (fun _ _ _ h => h) (Or.inl ⟨by rfl, ?_⟩) ?_ ?_
          rotate_left
          · intro w'
            go_simp
            with_reducible rfl
          rotate_left
          · simp only [Act.put, List.setIfInBounds_toArray, List.set_cons_zero, List.set_cons_succ, i64_w, i32_w]
            rfl
          refine done_ (by kernel_rfl) ?_
          go_wp2
          go_roundw
          case rel => exact ⟨j + 1, N, len, u1, u2, by go_num, by omega, ⟨by have := HLEN.out; omega⟩, ⟨⟨HW8.out, HQ8.out, HAP.out⟩⟩, HB8⟩
          case measure => simp [intOf]; omega
      · have hdj : decide (j < sg.length) = false := decide_eq_false hlt
        have hlj : len ≤ 1500 := by have := HLEN.out; omega
        have HW := Aside0.mk HTW.out.a
        have HQ := Aside0.mk HTW.out.b
        clear HTW
        go_wp2_with (first
          | (go_at_call 18; refine (done_calls w3.heap.size gw u1 N len _ HW.out (by omega)).mono ?_; rintro e w6 ⟨rfl, hb⟩; have HQ6 := Aside0.mk (HQ.out.below hb); have HB6 := Aside0.mk (below_step HB.out hb); clear hb)
          | (go_at_call 19; refine (rdone_calls w3.heap.size (gw + 1) u2 N len _ HQ6.out (by omega)).mono ?_; rintro e w7 ⟨rfl, hb⟩; have HB7 := Aside0.mk (below_step HB6.out hb); clear hb))
        go_ret
        exact ⟨by simp, below_step HB3.out HB7.out⟩
end Go.Proofs.Ytlfcepdaicngjaa.Walk
