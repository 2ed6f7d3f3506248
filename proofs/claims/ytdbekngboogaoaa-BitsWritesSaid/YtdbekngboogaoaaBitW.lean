/- bits.Writer: its methods on a number of so many bits. -/
import Derived.Test.YtdbekngboogaoaaHolds
import Derived.Test.YtdbekngboogaoaaBitN
import Derived.Test.YtdbekngboogaoaaPx0
import Derived.StillTailTactics
namespace Go.Proofs.Ytdbekngboogaoaa.Bw
set_option linter.unusedVariables false
set_option linter.unusedSimpArgs false
open Go Go.RowKit Go.Proofs.Ytdbekngboogaoaa.P Go.Proofs.Ytdbekngboogaoaa.B Go.Proofs.Ytdbekngboogaoaa.Bn Go.Proofs.Ytdbekngboogaoaa.Hd Go.Proofs.YtdbekngboogaoaaW.PrintWords Go.Proofs.YtdbekngboogaoaaW.PrintLast Go.Proofs.YtdbekngboogaoaaW.PrintMore

/-- The writer at g has written the number N, of len bits; its row of bytes is v. -/
def IsBW (base : Nat) (W : World) (g : Nat) (v : Value) (N len : Nat) : Prop :=
  Holds base W g 31 #[v, .int .i64 ((len % 8 : Nat) : Int)] v (byt N ((len + 7) / 8)) ∧ N < 2 ^ len
theorem z5 : (Try.prog.info? 5).map (fun i => (i.zero, i.size, i.bytes)) = some (some (.int .u8 0), 1, 1) := by kernel_rfl
theorem IsBW.bytes {base g N len : Nat} {W : World} {v : Value} (h : IsBW base W g v N len) : ∃ A c, v = .slice A ((len + 7) / 8) c := by
  obtain ⟨A, c, hv, _⟩ := Kd.R_reads h.1.row
  rw [byt_len] at hv
  exact ⟨A, c, hv⟩

attribute [local go_sem] max2_int min2_int
set_option maxHeartbeats 4000000 in
set_option maxRecDepth 100000 in
theorem write_calls (base g : Nat) (v : Value) (N len x : Nat) (n : Nat) (W : World) (hI : IsBW base W g v N len) (hx : x < 4294967296) (h1 : 1 ≤ n) (h32 : n ≤ 32) (hl : len ≤ 1099511627776) :
    Calls Try.prog 10 #[.pointer (some ⟨g, 0, none⟩), .int .u32 x, .int .i64 n] W fun e W' => e = .returned (.tuple #[]) ∧ ∃ v', IsBW base W' g v' (N + 2 ^ len * (x % 2 ^ n)) (len + n) ∧ Wrote W W' g v v' := by
  have HI0 := Aside0.mk hI
  clear hI
  have hn1 : decide ((n : Int) < 1) = false := decide_eq_false (by omega)
  have hn2 : decide ((32 : Int) < (n : Int)) = false := decide_eq_false (by omega)
  have hn3 : decide (32 < n) = false := decide_eq_false (by omega)
  have hlow := and_low x n hx h32
  have hmn : x % 2 ^ n < 2 ^ n := Nat.mod_lt _ (Nat.pow_pos (by decide))
  obtain ⟨y, hy⟩ : ∃ y, x % 2 ^ n = y := ⟨_, rfl⟩
  rw [hy] at hlow hmn ⊢
  have HY := Aside0.mk hmn
  clear hmn hy
  go_enter Try.func10, Try.ntmps10
  go_wp2
  have HIW := Aside0.mk (Wrote.refl W g v)
  go_loopw [2, 6] (fun v2 v6 wr => ∃ (d r : Nat) (v1 : Value), v2 = .int .i64 r ∧ d + r = n ∧ v6 = .int .u64 ((y / 2 ^ d : Nat) : Int) ∧ Aside0 (IsBW base wr g v1 (N + 2 ^ len * (y % 2 ^ d)) (len + d)) ∧ Aside0 (Wrote W wr g v v1))
    (fun v _ _ => (intOf v).toNat)
  case atStart => exact ⟨0, n, v, rfl, by omega, by simp, ⟨by have := HI0.out; simpa [Nat.mod_one] using this⟩, HIW⟩
  case round =>
    clear hlow HI0 HIW hn1 hn2 hn3
    obtain ⟨d, r, v1, rfl, hdr, rfl, HI, HW⟩ := hrel
    by_cases hr : r = 0
    · subst hr
      have hd : d = n := by omega
      subst hd
      go_wp2
      first | go_end0 | ((try simp only [Exit.inBlock, Exit.then]); refine bodyPost_ret (results_none rfl _ _ _) rfl ?_)
      refine ⟨rfl, v1, ?_, HW.out⟩
      have h := HI.out
      rwa [Nat.mod_eq_of_lt HY.out] at h
    have hr1 : decide ((0 : Int) < (r : Int)) = true := decide_eq_true (by omega)
    have hr2 : decide (0 < r) = true := decide_eq_true (by omega)
    obtain ⟨M, hM⟩ : ∃ M, N + 2 ^ len * (y % 2 ^ d) = M := ⟨_, rfl⟩
    obtain ⟨m, hm⟩ : ∃ m, len + d = m := ⟨_, rfl⟩
    obtain ⟨q, hq⟩ : ∃ q, y / 2 ^ d = q := ⟨_, rfl⟩
    rw [hM, hm] at HI
    rw [hq]
    obtain ⟨t, ht⟩ : ∃ t, m % 8 = t := ⟨_, rfl⟩
    have HH := Aside0.mk HI.out.1
    have HN := Aside0.mk HI.out.2
    rw [ht] at HH
    have hmb : m ≤ 1099511627776 + 32 := by omega
    have hne : some g ≠ v1.ownBlock := fun e => HH.out.ne (by decide) g e.symm rfl
    have hc0 : wr.cell? ⟨g, 0, none⟩ = some v1 := (blk_cell HH.out.blk 0).trans rfl
    have hc1 : wr.cell? ⟨g, 1, none⟩ = some (.int .i64 t) := (blk_cell HH.out.blk 1).trans rfl
    go_upto_if 30 with (fail)
    go_cut [] (fun wc => Aside0 (∃ v3, Holds base wc g 31 #[v3, .int .i64 (t : Int)] v3 (byt M (m / 8 + 1)) ∧ Wrote W wc g v v3))
    case first =>
      by_cases h0 : t = 0
      · subst h0
        have e7 : (m + 7) / 8 = m / 8 := by omega
        have hrow := HH.out.row
        rw [e7] at hrow
        have HRow := Aside0.mk hrow
        have hxl : (byt M (m / 8)).length = m / 8 := byt_len _ _
        have hz : byt M (m / 8) ++ [0] = byt M (m / 8 + 1) := (byt_zero M (m / 8) (by rw [pow256]; rw [show 8 * (m / 8) = m by omega]; exact HN.out)).symm
        obtain ⟨xs, hxs⟩ : ∃ xs, byt M (m / 8) = xs := ⟨_, rfl⟩
        rw [hxs] at HRow hxl hz
        clear hrow hxs
        go_wp2_with ((with_reducible refine gate_builtin (b := .append) (xs := #[.tmp 35, .tmp 36]) rfl ?_); at_builtin; refine Kd.R_append (Kd.int .u8) (w0 := wr) base rfl (.tmp 35) (.tmp 36) 29 5 (.int .u8 0) 1 rfl Try.underlying29 z5 rfl (by decide) (by omega) v1 xs (0 : Int) [.int .u8 0] (fun k => some k = v1.ownBlock ∨ wr.heap.size ≤ k) (fun _ => False) rfl rfl ?aP (fun _ hk => hk.elim) ?aF ?aO ?aB ?aS ?aL ?_; (case aP => rfl); (case aF => exact (fun _ hk => .inr hk)); (case aO => exact Kd.R_mono HRow.out (fun _ hk => .inl hk)); (case aB => exact Below.refl _ _); (case aS => exact Nat.le_of_lt (Nat.lt_of_le_of_lt HH.out.ge HH.out.lt)); (case aL => omega); intro v6 w6 ho hb hg hat; obtain ⟨A6, c6, rfl⟩ := Kd.R_slice ho; obtain ⟨v6, hv6⟩ : ∃ v6 : Value, Value.slice A6 (xs ++ [0]).length c6 = v6 := ⟨_, rfl⟩; have hv6' := Aside0.mk hv6.symm; (try rw [hv6] at ho hat); have HO6 := Aside0.mk (Kd.R_reok rfl ho (fun k hk => hk.symm) : Kd.R (Kd.int .u8) 5 w6 base (fun k => some k = v6.ownBlock) v6 (xs ++ [0])); have HB6 := Aside0.mk (blk_grown HH.out.blk hg hne); have HW6 := Aside0.mk (HW.out.grow hg hat); have hc6 := blk_cell HB6.out 0; have hf6 := blk_frozen HB6.out 0; clear ho hb hg hat)
        go_meet
        have e6 := hv6'.out
        subst e6
        refine ⟨_, ?_, HW6.out.set 0 _⟩
        rw [← hz]
        exact Holds.turn (v := .slice A6 (xs ++ [0]).length c6) ⟨HB6.out, HH.out.ge, HO6.out⟩ 0 HO6.out (by decide)
      · have hb : ((t : Int) == 0) = false := by simp; omega
        have hb2 : (t == 0) = false := by simp; omega
        have e7 : (m + 7) / 8 = m / 8 + 1 := by omega
        go_wp2
        go_meet
        have h := HH.out
        rw [e7] at h
        exact ⟨v1, h, HW.out⟩
    case rest =>
      obtain ⟨v3, H3, W3⟩ := hcut.out
      have HW3 := Aside0.mk W3
      have hxl : (byt M (m / 8 + 1)).length = m / 8 + 1 := byt_len _ _
      have ht8 : t < 8 := by omega
      have h8c : 8 * (m / 8) + t = m := by omega
      clear hcut W3 hc0 hc1 HH
      have hbyte : ∃ bb, M / 256 ^ (m / 8) = bb ∧ bb < 2 ^ t := by
        refine ⟨_, rfl, ?_⟩
        rw [Nat.div_lt_iff_lt_mul (Nat.pow_pos (by decide)), pow256, ← Nat.pow_add, show t + 8 * (m / 8) = m by omega]
        exact HN.out
      obtain ⟨bb, hbb, hbt⟩ := hbyte
      have hqr : q < 2 ^ r := by
        rw [← hq, Nat.div_lt_iff_lt_mul (Nat.pow_pos (by decide)), ← Nat.pow_add, show r + d = n by omega]
        exact HY.out
      obtain ⟨k, hk⟩ : ∃ k, k = min (8 - t) r := ⟨_, rfl⟩
      obtain ⟨hor, hb256⟩ := or_byte bb q t r k ht8 hbt hqr (by omega) hk
      have hlast : rdOf 0 (byt M (m / 8 + 1)) ((m / 8 : Nat) : Int) = (bb : Int) := by
        unfold rdOf
        rw [List.getD_eq_getElem?_getD, Int.toNat_natCast, byt_get _ _ _ (by omega), hbb, Option.getD_some, Nat.mod_eq_of_lt (by omega)]
      have hput := byt_put M m (m / 8) (q % 2 ^ k) HN.out (by omega) (by rw [show m - 8 * (m / 8) = t by omega, hbb]; exact hb256)
      rw [show m - 8 * (m / 8) = t by omega, hbb] at hput
      obtain ⟨z, hz⟩ : ∃ z, bb + 2 ^ t * (q % 2 ^ k) = z := ⟨_, rfl⟩
      rw [hz] at hor hput
      clear hz
      have hkr : k ≤ r := by omega
      have hk1 : 1 ≤ k := by omega
      have hk8 : t + k ≤ 8 := by omega
      obtain ⟨c, hc⟩ : ∃ c, m / 8 = c := ⟨_, rfl⟩
      rw [hc] at H3 hxl h8c hlast hput
      have hmin : (if (r : Int) < 8 - (t : Int) then (r : Int) else 8 - (t : Int)) = (k : Int) := by split <;> omega
      have HPUT := Aside0.mk hput
      obtain ⟨xs, hxs⟩ : ∃ xs, byt M (c + 1) = xs := ⟨_, rfl⟩
      rw [hxs] at H3 hxl hlast HPUT
      obtain ⟨b, cap, rfl, hbb1, hbb2, _⟩ := Kd.R_form H3.row (by omega)
      have H3 := Aside0.mk H3
      clear hput hxs hbb hbt hqr hb256 hk
      have hc0 : wc.cell? ⟨g, 0, none⟩ = some (.slice (some ⟨b, 0, none⟩) xs.length cap) := (blk_cell H3.out.blk 0).trans rfl
      have hc1 : wc.cell? ⟨g, 1, none⟩ = some (.int .i64 t) := (blk_cell H3.out.blk 1).trans rfl
      obtain ⟨hcb, hfb⟩ := Kd.R_cell 0 H3.out.row ((c : Nat) : Int) (by omega) (by omega)
      rw [hlast] at hcb
      simp only [Int.toNat_natCast] at hcb hfb
      rw [hxl] at hc0
      go_upto_region 6 with (fail)
      go_region
      have H4 := Aside0.mk ((H3.out.put (by decide) c (z : Int)).drew)
      have HW4 := Aside0.mk ((HW3.out.put (b := b) rfl c (.int .u8 (z : Int))).drew)
      clear hc0 hc1 hcb hfb
      generalize (wc.setCell ⟨b, c, none⟩ (.int .u8 (z : Int))).drew = w4 at H4 HW4 ⊢
      have hc1 : w4.cell? ⟨g, 1, none⟩ = some (.int .i64 t) := (blk_cell H4.out.blk 1).trans rfl
      have hf1 := blk_frozen H4.out.blk 1
      have h7 := and7 (t + k) (by omega)
      rw [Int.natCast_add] at h7
      go_wp2
      rw [show ((t : Int) + (k : Int)) % 8 = (((t + k) % 8 : Nat) : Int) by omega]
      refine ⟨⟨d + k, r - k, _, by rw [Int.natCast_sub hkr], by omega, ?_, ⟨?_, ?_⟩, ⟨HW4.out.set 1 _⟩⟩, by simp [intOf]; omega⟩
      · rw [Nat.pow_add, ← Nat.div_div_eq_div_mul, hq]; simp
      · have h := H4.out.set (by decide) 1 (.int .i64 (((t + k) % 8 : Nat) : Int))
        rw [add_bits, hM, hq, hm]
        rw [show (len + (d + k) + 7) / 8 = c + 1 by omega, show (len + (d + k)) % 8 = (t + k) % 8 by omega, HPUT.out]
        exact h
      · rw [add_bits, hM, hq, hm, ← Nat.add_assoc, hm]
        exact lt_bits _ _ _ _ HN.out
end Go.Proofs.Ytdbekngboogaoaa.Bw
