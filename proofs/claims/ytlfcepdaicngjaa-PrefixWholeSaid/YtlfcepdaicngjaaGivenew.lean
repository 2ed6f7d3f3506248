/- prefix.New: a code of lengths: the walk. -/
import Derived.Test.YtlfcepdaicngjaaGivewords
import Derived.Test.YtlfcepdaicngjaaGiveclone8
import Derived.Test.YtlfcepdaicngjaaKey
import Derived.Test.YtlfcepdaicngjaaPx1
namespace Go.Proofs.Ytlfcepdaicngjaa.Pk
set_option linter.unusedVariables false
set_option linter.unusedSimpArgs false
open Go Go.RowKit Go.Proofs.Ytlfcepdaicngjaa.P Go.Proofs.Ytlfcepdaicngjaa.MapV Go.Proofs.YtlfcepdaicngjaaW.PrintWords Go.Proofs.YtlfcepdaicngjaaW.PrintLast Go.Proofs.YtlfcepdaicngjaaW.PrintMore
/-- What the map of signs tells of the first j lengths. -/
def signsG (ls ws : List Int) : Nat → (Wd → Option Value)
  | 0 => fun _ => none
  | j + 1 => if ls.getD j 0 > 0 then upd (signsG ls ws j) (wd (ls.getD j 0) (ws.getD j 0)) (.int .i64 j) else signsG ls ws j
/-- The longest of the first j lengths. -/
def mostW (ls : List Int) : Nat → Int
  | 0 => 0
  | j + 1 => if ls.getD j 0 > 0 then max (mostW ls j) (ls.getD j 0) else mostW ls j
/-- A code in memory. -/
def IsCode (w : World) (p : Nat) (ls ws : List Int) : Prop :=
  ∃ A1 c1 A2 c2 b, w.heap[p]? = some (.cells #[.slice A1 ls.length c1, .slice A2 ws.length c2, .map (some b), .int .i64 (mostW ls ls.length)] 66 (0, 0)) ∧ Kd.C (Kd.int .u8) w A1 ls.length ls ∧ Kd.C (Kd.int .u32) w A2 ws.length ws ∧ OwnsV encW w b (signsG ls ws ls.length)
theorem mostW_range (ls : List Int) (h : ∀ x ∈ ls, 0 ≤ x ∧ x ≤ 15) : ∀ j, j ≤ ls.length → 0 ≤ mostW ls j ∧ mostW ls j ≤ 15
  | 0, _ => by simp [mostW]
  | j + 1, hj => by
    have ih := mostW_range ls h j (by omega)
    have hx := h _ (List.getElem_mem (show j < ls.length by omega))
    rw [mostW, List.getD_eq_getElem?_getD, List.getElem?_eq_getElem (show j < ls.length by omega), Option.getD_some]
    split <;> omega
theorem set_tail (a b c x y : Value) (t : Nat) (w : World) (g : Nat) (h : w.heap[g]? = some (.cells #[a, b, c, x] t (0, 0))) : (w.setCell ⟨g, 3, none⟩ y).heap[g]? = some (.cells #[a, b, c, y] t (0, 0)) := by
  have := blk_set h 3 y
  rw [this]; rfl
attribute [local go_sem] max2_int min2_int max_two min_two
set_option maxHeartbeats 8000000 in
set_option maxRecDepth 100000 in
theorem new_ok (A0 : Option Addr) (c0 : Nat) (l0 ws : List Int) (n : Int) (o : Bool) (w : World) (hr0 : Kd.C (Kd.int .u8) w A0 l0.length l0) (hc0 : l0.length ≤ c0)
    (hW : prefix_Words.f l0 = some (ws, 0)) (hF : prefix_Fill.f 5000 l0 = some (n, 0)) (hlen : l0.length ≤ 4096) (hws : ws.length = l0.length) (hls : ∀ x ∈ l0, 0 ≤ x ∧ x ≤ 15) (hwr : ∀ v ∈ ws, 0 ≤ v ∧ v < 4294967296)
    (hcond : 32768 ≤ n ∨ n < 32768 ∧ o = true ∧ prefix_few.f 5000 l0 = some true) :
    Calls Try.prog 8 #[.slice A0 l0.length c0, .bool o] w fun e w' => ∃ p, w.heap.size ≤ p ∧ e = .returned (.tuple #[.pointer (some ⟨p, 0, none⟩), .int .i64 0]) ∧ IsCode w' p l0 ws ∧ Below w.heap.size w w' := by
  have HW := Aside0.mk hW
  have HF := Aside0.mk hF
  have HR := Aside0.mk hr0
  have HC := Aside0.mk hc0
  have HLS := Aside0.mk hls
  have HWR := Aside0.mk hwr
  have HWS := Aside0.mk hws
  have HLEN := Aside0.mk hlen
  clear hW hF hr0 hc0 hls hwr hws hlen
  rcases hcond with hA | ⟨hA, rfl, hfew⟩
  case' inl =>
    have hb1 : decide (n < 32768) = false := decide_eq_false (by omega)
    clear hA
    go_enter Try.func8, Try.ntmps8
    go_upto_region 7 with (first
      | (go_at_call 21; refine (prefix_Words.calls _ _ l0 _ _ _ HR.out HC.out HW.out).mono ?_; rintro e w1 ⟨vw, rfl, hrw, hbw⟩; obtain ⟨A2, c2, rfl, _, hrw⟩ := Kd.R_reads hrw; have HRW := Aside0.mk hrw; have HB := Aside0.mk hbw; clear hrw hbw)
      | (go_at_call 22; refine (prefix_Fill.calls 5000 _ _ l0 _ _ _ (Kd.C_below HR.out HB.out) HC.out HF.out).mono ?_; rintro e w2 ⟨rfl, ⟨nd, rfl⟩⟩))
  case' inr =>
    have hb1 : decide (n < 32768) = true := decide_eq_true hA
    have HFEW := Aside0.mk hfew
    clear hA hfew
    go_enter Try.func8, Try.ntmps8
    go_upto_region 7 with (first
      | (go_at_call 21; refine (prefix_Words.calls _ _ l0 _ _ _ HR.out HC.out HW.out).mono ?_; rintro e w1 ⟨vw, rfl, hrw, hbw⟩; obtain ⟨A2, c2, rfl, _, hrw⟩ := Kd.R_reads hrw; have HRW := Aside0.mk hrw; have HB := Aside0.mk hbw; clear hrw hbw)
      | (go_at_call 22; refine (prefix_Fill.calls 5000 _ _ l0 _ _ _ (Kd.C_below HR.out HB.out) HC.out HF.out).mono ?_; rintro e w2 ⟨rfl, ⟨nd0, rfl⟩⟩)
      | (go_at_call 23; refine (prefix_few.calls 5000 _ _ l0 _ _ (Kd.C_below (Kd.C_below HR.out HB.out) (pw_below_drewN (Below.refl _ _) _)) HC.out HFEW.out).mono ?_; rintro e w2 ⟨rfl, ⟨nd1, rfl⟩⟩))
    obtain ⟨nd, hnd⟩ : ∃ nd, nd0 + nd1 = nd := ⟨_, rfl⟩
    rw [hnd]
    clear hnd
  all_goals (
    have hmm := @run_makeMap Try.prog
    have hclone : slices_Clone_uint8_uint8.f l0 = some l0 := by unfold slices_Clone_uint8_uint8.f; rw [if_pos (by have := HLEN.out; omega)]
    have HCL := Aside0.mk hclone
    clear hclone
    go_upto_region 8 with (go_at_call 24; refine (slices_Clone_uint8_uint8.calls _ _ l0 _ _ (Kd.C_below (Kd.C_below HR.out HB.out) (pw_below_drewN (Below.refl _ _) _)) HC.out HCL.out).mono ?_; rintro e w3 ⟨vc, rfl, hrc, hbc⟩; obtain ⟨A1, c1, rfl, _, hrc⟩ := Kd.R_reads hrc; have HRC := Aside0.mk hrc; have HBC := Aside0.mk hbc; clear hrc hbc)
    clear hmm
    have HS3 := Aside0.mk (below_step (pw_below_drewN HB.out nd) HBC.out)
    have HA1 := Aside0.mk HRC.out
    have HA2 := Aside0.mk (Kd.C_below (Kd.C_drewN HRW.out nd) HBC.out)
    have HM := Aside0.mk (OwnsV.below (MapV.made (enc := encW) w3) (below_alloc (Below.refl (w3.alloc (.map #[] 0)).heap.size (w3.alloc (.map #[] 0))) (.cells #[.slice A1 l0.length c1, .slice A2 ws.length c2, .map (some w3.heap.size), .int .i64 0] 66)))
    have HP := Aside0.mk (heap_alloc_new (w3.alloc (.map #[] 0)) (.cells #[.slice A1 l0.length c1, .slice A2 ws.length c2, .map (some w3.heap.size), .int .i64 0] 66))
    have HB3 := Aside0.mk (below_alloc (below_alloc (Below.refl w3.heap.size w3) (.map #[] 0)) (.cells #[.slice A1 l0.length c1, .slice A2 ws.length c2, .map (some w3.heap.size), .int .i64 0] 66))
    have hs1 : (w3.alloc (.map #[] 0)).heap.size = w3.heap.size + 1 := by simp
    rw [hs1] at HP
    generalize (w3.alloc (.map #[] 0)).alloc (.cells #[.slice A1 l0.length c1, .slice A2 ws.length c2, .map (some w3.heap.size), .int .i64 0] 66) = wl at HM HP HB3 ⊢
    clear hs1
    obtain ⟨gp, hgp⟩ : ∃ g, w3.heap.size + 1 = g := ⟨_, rfl⟩
    rw [hgp] at HP ⊢
    have hle3 : w.heap.size ≤ w3.heap.size := HS3.out.size
    have HG := Aside0.mk (show gp = w3.heap.size + 1 ∧ w.heap.size ≤ w3.heap.size from ⟨hgp.symm, hle3⟩)
    clear hgp hle3 HRW HRC HBC HB HCL
    have hlen := HLEN.out
    have hwl := HWS.out
    go_wp2
    go_loopw [44] (fun v44 wr => ∃ j : Nat, v44 = .int .i64 j ∧ j ≤ l0.length ∧ Aside0 (OwnsV encW wr w3.heap.size (signsG l0 ws j)) ∧ Aside0 (wr.heap[gp]? = some (.cells #[.slice A1 l0.length c1, .slice A2 ws.length c2, .map (some w3.heap.size), .int .i64 (mostW l0 j)] 66 (0, 0))) ∧ Aside0 (Below w3.heap.size w3 wr))
      (fun v _ => l0.length - (intOf v).toNat)
    case atStart => exact ⟨0, rfl, by omega, HM, HP, HB3⟩
    case round =>
      clear HM HP HB3
      obtain ⟨j, rfl, hj, HM, HP, HB3⟩ := hrel
      by_cases hlt : j < l0.length
      · have hd : decide (j < l0.length) = true := decide_eq_true hlt
        have hd2 : decide (j < ws.length) = true := decide_eq_true (by omega)
        obtain ⟨ad, hA, hx⟩ := Kd.at_int HR.out (j : Int) (by omega) (by omega)
        cases hA
        replace hx := ((below_step HS3.out HB3.out).cell (World.block_lt_of_cell? w _ hx)).trans hx
        have hg : rd l0 (j : Int) = l0[j] := by unfold rd; rw [List.getD_eq_getElem?_getD, Int.toNat_natCast, List.getElem?_eq_getElem hlt]; rfl
        rw [hg] at hx
        simp only [Int.toNat_natCast] at hx
        obtain ⟨ad2, hA2, hy⟩ := Kd.at_int HA2.out (j : Int) (by omega) (by omega)
        cases hA2
        replace hy := (HB3.out.cell (World.block_lt_of_cell? w3 _ hy)).trans hy
        have hg2 : rd ws (j : Int) = ws[j]'(by omega) := by unfold rd; rw [List.getD_eq_getElem?_getD, Int.toNat_natCast, List.getElem?_eq_getElem (by omega)]; rfl
        rw [hg2] at hy
        simp only [Int.toNat_natCast] at hy
        have hr := HLS.out _ (List.getElem_mem hlt)
        have hr2 := HWR.out _ (List.getElem_mem (show j < ws.length by omega))
        have hsn : signsG l0 ws (j + 1) = if l0[j] > 0 then upd (signsG l0 ws j) (wd l0[j] (ws[j]'(by omega))) (.int .i64 j) else signsG l0 ws j := by
          rw [signsG, List.getD_eq_getElem?_getD, List.getElem?_eq_getElem hlt, Option.getD_some, List.getD_eq_getElem?_getD, List.getElem?_eq_getElem (by omega), Option.getD_some]
        have hmn : mostW l0 (j + 1) = if l0[j] > 0 then max (mostW l0 j) l0[j] else mostW l0 j := by
          rw [mostW, List.getD_eq_getElem?_getD, List.getElem?_eq_getElem hlt, Option.getD_some]
        have hmr := mostW_range l0 HLS.out j hj
        obtain ⟨x, hxx⟩ : ∃ x, l0[j] = x := ⟨_, rfl⟩
        obtain ⟨v, hvv⟩ : ∃ v, ws[j]'(by omega) = v := ⟨_, rfl⟩
        obtain ⟨q, hq⟩ : ∃ q, mostW l0 j = q := ⟨_, rfl⟩
        rw [hxx] at hx hr hsn hmn
        rw [hvv] at hy hr2 hsn
        rw [hq] at hmn hmr HP
        have HSN := Aside0.mk hsn
        have HMN := Aside0.mk hmn
        clear hsn hmn hg hg2 hxx hvv hq
        by_cases hz : x > 0
        · have hzb : decide (0 < x) = true := decide_eq_true hz
          obtain ⟨w4, hrun, hm4, hg4⟩ := update_run (t := 64) keyedW Try.underlying64 encW_inj key_okW (HM.out.below (below_drew (Below.refl _ _)) : OwnsV encW wr.drew w3.heap.size _) (wd x v) (.int .i64 j)
          rw [enc_wd x v (by omega) (by omega) (by omega) (by omega)] at hrun
          have hc2 := blk_cell HP.out 2
          simp only [List.getElem?_toArray, List.getElem?_cons_zero, List.getElem?_cons_succ] at hc2
          have HM4 := Aside0.mk hm4
          have HP4 : Aside0 (w4.heap[gp]? = some (.cells #[.slice A1 l0.length c1, .slice (some ad2) ws.length c2, .map (some w3.heap.size), .int .i64 q] 66 (0, 0))) := ⟨(hg4.block gp (by have := blk_lt HP.out; show gp < wr.heap.size; omega) (by have := HG.out; simp; omega)).trans HP.out⟩
          have HB4 := Aside0.mk ((below_drew HB3.out).grown hg4 HB3.out.size (by intro k hk; injection hk; omega))
          clear hm4 hg4
          go_upto_region 12 with (fail)
          go_region
          have hc3 := blk_cell HP4.out 3
          simp only [List.getElem?_toArray, List.getElem?_cons_zero, List.getElem?_cons_succ] at hc3
          have hf3 := blk_frozen HP4.out 3
          clear hrun hc2 hx hy
          have hs2 := HSN.out
          have hm2 := HMN.out
          rw [if_pos hz] at hs2 hm2
          have HS2 := Aside0.mk hs2
          have HM2 := Aside0.mk hm2
          clear hs2 hm2 HSN HMN
          go_wp2
          have hg := HG.out
          refine ⟨⟨j + 1, by go_num, by omega, ⟨by rw [HS2.out]; exact HM4.out.move (Below.heap_setCell w4 _ _ _ (by show w3.heap.size ≠ gp; omega))⟩, ⟨by rw [HM2.out, show max q x = (if q < x then x else q) by split <;> omega]; exact set_tail _ _ _ _ _ _ _ _ HP4.out⟩, ⟨below_set HB4.out (by omega)⟩⟩, by simp [intOf]; omega⟩
        · obtain rfl : x = 0 := by omega
          have hs2 := HSN.out
          have hm2 := HMN.out
          rw [if_neg (by omega)] at hs2 hm2
          have HS2 := Aside0.mk hs2
          have HM2 := Aside0.mk hm2
          clear hs2 hm2 HSN HMN
          go_wp2
          go_roundw
          case rel => exact ⟨j + 1, by go_num, by omega, by rw [HS2.out]; exact HM, by rw [HM2.out]; exact HP, HB3⟩
          case measure => simp [intOf]; omega
      · have hd : decide (j < l0.length) = false := decide_eq_false hlt
        obtain rfl : j = l0.length := by omega
        go_wp2
        go_ret2
        have hg := HG.out
        exact ⟨gp, by omega, rfl, ⟨A1, c1, A2, c2, w3.heap.size, HP.out, Kd.C_below HA1.out HB3.out, Kd.C_below HA2.out HB3.out, HM.out⟩, below_step HS3.out HB3.out⟩)
end Go.Proofs.Ytlfcepdaicngjaa.Pk
