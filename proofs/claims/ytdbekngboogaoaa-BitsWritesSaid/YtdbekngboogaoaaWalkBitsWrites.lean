/- BitsWrites: behind any calls what is written is what the reference writes; and what bits are in the other order: the walk through the law's own code. -/
import Derived.Test.YtdbekngboogaoaaRefWD
import Derived.Test.YtdbekngboogaoaaAwake
import Derived.Test.YtdbekngboogaoaaTurn
import Derived.Test.YtdbekngboogaoaaOpens
namespace Go.Proofs.Ytdbekngboogaoaa.Walk
open Go Go.RowKit Go.Proofs.Ytdbekngboogaoaa.P Go.Proofs.Ytdbekngboogaoaa.B Go.Proofs.Ytdbekngboogaoaa.Bn Go.Proofs.Ytdbekngboogaoaa.Hd Go.Proofs.Ytdbekngboogaoaa.Bw Go.Proofs.Ytdbekngboogaoaa.Rw Go.Proofs.Ytdbekngboogaoaa.D3 Go.Proofs.YtdbekngboogaoaaW.PrintWords Go.Proofs.YtdbekngboogaoaaW.PrintLast Go.Proofs.YtdbekngboogaoaaW.PrintMore
set_option linter.unusedVariables false
set_option linter.unusedSimpArgs false

def wN (N len : Nat) (x n : Int) : Nat := if 1 ≤ n ∧ n ≤ 32 then N + 2 ^ len * (x.toNat % 2 ^ n.toNat) else N
def wL (len : Nat) (n : Int) : Nat := if 1 ≤ n ∧ n ≤ 32 then len + n.toNat else len
theorem wL_le (len : Nat) (n : Int) : wL len n ≤ len + 32 := by unfold wL; split <;> omega
theorem write_any (base g : Nat) (v : Value) (N len : Nat) (x n : Int) (W : World) (hI : IsBW base W g v N len) (hx : 0 ≤ x ∧ x ≤ 4294967295) (hl : len ≤ 1099511627776) :
    Calls Try.prog 10 #[.pointer (some ⟨g, 0, none⟩), .int .u32 x, .int .i64 n] W fun e W' => e = .returned (.tuple #[]) ∧ ∃ v', IsBW base W' g v' (wN N len x n) (wL len n) ∧ Wrote W W' g v v' := by
  by_cases h : 1 ≤ n ∧ n ≤ 32
  · obtain ⟨y, rfl⟩ : ∃ y : Nat, x = (y : Int) := ⟨x.toNat, by omega⟩
    obtain ⟨m, rfl⟩ : ∃ m : Nat, n = (m : Int) := ⟨n.toNat, by omega⟩
    refine (write_calls base g v N len y m W hI (by omega) (by omega) (by omega) hl).mono ?_
    rintro e w' ⟨rfl, v', h1, h2⟩
    refine ⟨rfl, v', ?_, h2⟩
    unfold wN wL
    rw [if_pos h, if_pos h]
    exact h1
  · refine (write_none g x n W (by omega)).mono ?_
    rintro e w' ⟨rfl, hb⟩
    refine ⟨rfl, v, ?_, (Wrote.refl W g v).quiet hb⟩
    unfold wN wL
    rw [if_neg h, if_neg h]
    exact hI.below hb
theorem rwrite_any (base g : Nat) (v : Value) (N len : Nat) (x n : Int) (W : World) (hI : IsRW base W g v N len) (hx : 0 ≤ x ∧ x ≤ 4294967295) (hl : len ≤ 1099511627776) :
    Calls Try.prog 11 #[.pointer (some ⟨g, 0, none⟩), .int .u32 x, .int .i64 n] W fun e W' => e = .returned (.tuple #[]) ∧ ∃ v', IsRW base W' g v' (wN N len x n) (wL len n) ∧ Wrote W W' g v v' := by
  by_cases h : 1 ≤ n ∧ n ≤ 32
  · obtain ⟨y, rfl⟩ : ∃ y : Nat, x = (y : Int) := ⟨x.toNat, by omega⟩
    obtain ⟨m, rfl⟩ : ∃ m : Nat, n = (m : Int) := ⟨n.toNat, by omega⟩
    refine (rwrite_calls base g v N len y m W hI (by omega) (by omega) (by omega) hl).mono ?_
    rintro e w' ⟨rfl, v', h1, h2⟩
    refine ⟨rfl, v', ?_, h2⟩
    unfold wN wL
    rw [if_pos h, if_pos h]
    exact h1
  · refine (rwrite_none g x n W (by omega)).mono ?_
    rintro e w' ⟨rfl, hb⟩
    refine ⟨rfl, v, ?_, (Wrote.refl W g v).quiet hb⟩
    unfold wN wL
    rw [if_neg h, if_neg h]
    exact hI.below hb
theorem bw_drew {base g N len : Nat} {W : World} {v : Value} (h : IsBW base W g v N len) : IsBW base W.drew g v N len := ⟨h.1.drew, h.2⟩
theorem rw_drew {base g N len : Nat} {W : World} {v : Value} (h : IsRW base W g v N len) : IsRW base W.drew g v N len := ⟨h.1.drew, h.2⟩
/-- Two writers, of one kind each, that share no row. -/
structure Two (base : Nat) (W : World) (g q : Nat) (u v : Value) (N len : Nat) : Prop where
  a : IsBW base W g u N len
  b : IsRW base W q v N len
  apart : ∀ k, v.ownBlock = some k → u.ownBlock ≠ some k
theorem Two.fst {base g q N len N2 len2 : Nat} {W W1 : World} {u v u1 : Value} (hb : IsRW base W q v N2 len2) (ha : IsBW base W g u N len) (hap : ∀ k, v.ownBlock = some k → u.ownBlock ≠ some k) (hw : Wrote W W1 g u u1) :
    IsRW base W1 q v N2 len2 ∧ ∀ k, v.ownBlock = some k → u1.ownBlock ≠ some k := by
  refine ⟨⟨hb.1.stay hw (blk_ne hb.1.blk ha.1.blk (by decide)) (fun k hk => ?_) (fun k hk => ?_) (fun k hk => hap k hk), hb.2⟩, apart_step hw (fun k hk => (hb.1.own k hk).2.1) hap⟩
  · obtain ⟨c, hc⟩ := (ha.1.own k hk).2.2
    exact blk_ne hb.1.blk hc (by decide)
  · obtain ⟨c, hc⟩ := (hb.1.own k hk).2.2
    exact blk_ne hc ha.1.blk (by decide)
theorem Two.snd {base g q N len N2 len2 : Nat} {W W1 : World} {u v v1 : Value} (ha : IsBW base W g u N len) (hb : IsRW base W q v N2 len2) (hap : ∀ k, v.ownBlock = some k → u.ownBlock ≠ some k) (hw : Wrote W W1 q v v1) :
    IsBW base W1 g u N len ∧ ∀ k, v1.ownBlock = some k → u.ownBlock ≠ some k := by
  have hap' : ∀ k, u.ownBlock = some k → v.ownBlock ≠ some k := fun k h1 h2 => hap k h2 h1
  refine ⟨⟨ha.1.stay hw (blk_ne ha.1.blk hb.1.blk (by decide)) (fun k hk => ?_) (fun k hk => ?_) (fun k hk => hap' k hk), ha.2⟩, fun k h1 h2 => apart_step hw (fun k hk => (ha.1.own k hk).2.1) hap' k h2 h1⟩
  · obtain ⟨c, hc⟩ := (hb.1.own k hk).2.2
    exact blk_ne ha.1.blk hc (by decide)
  · obtain ⟨c, hc⟩ := (ha.1.own k hk).2.2
    exact blk_ne hc hb.1.blk (by decide)

set_option maxHeartbeats 8000000 in
set_option maxRecDepth 100000 in
theorem BitsWrites (A : Option Addr) (cap : Nat) (l : List S36) (v n : Int) (w : World)
    (hl : l.length ≤ cap) (hC : Kd.C k36 w A l.length l) (hok : ∀ x ∈ l, (Lit.int .i64 x.f0).wf = true ∧ (Lit.int .i64 x.f1).wf = true ∧ (Lit.int .u32 x.f2).wf = true ∧ x.f3.size ≤ maxLen) (hlen : l.length * 40 ≤ 140737488351232)
    (hv : (Lit.int .u32 v).wf = true) (hn : (Lit.int .i64 n).wf = true) :
    Calls Try.prog 4 #[.slice A l.length cap, .int .u32 v, .int .i64 n] w fun e w' => e = .returned (.bool true) ∧ Below w.heap.size w w' := by
  have HOK := Aside0.mk hok
  have HC := Aside0.mk hC
  have hv' := wf_u32 hv
  clear hok hC hv hn
  by_cases h6 : (l.length : Int) > 60
  · have h6b : decide (60 < (l.length : Int)) = true := decide_eq_true h6
    have h6c : decide (60 < l.length) = true := decide_eq_true (by omega)
    go_enter Try.func4, Try.ntmps4
    go_wp2_with (go_at_call 8; refine (awake_calls _).mono ?_; rintro e w1 ⟨rfl, hb⟩)
    go_ret
    exact ⟨rfl, by assumption⟩
  have h6b : decide (60 < (l.length : Int)) = false := decide_eq_false h6
  have h6c : decide (60 < l.length) = false := decide_eq_false (by omega)
  have hu2 := Try.underlying36
  have HT : Aside0 (∃ r : Int, bits_Turn.f 40 v n = some r ∧ portmanteauref03_Turn.f 40 v n = some r) := by
    by_cases h : n < 1 ∨ 32 < n
    · exact ⟨0, turn_out v n h, ref_out v n h⟩
    · obtain ⟨y, rfl⟩ : ∃ y : Nat, v = (y : Int) := ⟨v.toNat, by omega⟩
      obtain ⟨m, rfl⟩ : ∃ m : Nat, n = (m : Int) := ⟨n.toNat, by omega⟩
      exact ⟨_, turn_in y m (by omega) (by omega) (by omega), ref_in y m (by omega) (by omega) (by omega)⟩
  go_enter Try.func4, Try.ntmps4
  go_wp2_with (go_at_call 8; refine (awake_calls _).mono ?_; rintro e w1 ⟨rfl, hb⟩; have HB1 := Aside0.mk hb; clear hb)
  have HNW := Aside0.mk ((IsBW.new w.heap.size w1 (by have := HB1.out.size; omega)).alloc (.cells #[.slice none 0 0] 34))
  have HNQ := Aside0.mk (IsRW.new w.heap.size (w1.alloc (.cells #[.slice none 0 0, .int .i64 0] 31)) (by have := HB1.out.size; simp; omega))
  have HB2 := Aside0.mk (below_alloc (below_alloc HB1.out (.cells #[.slice none 0 0, .int .i64 0] 31)) (.cells #[.slice none 0 0] 34))
  simp only [World.size_alloc] at HNQ
  go_loopw [22] (fun v wr => ∃ (i N len : Nat) (u1 u2 : Value), v = .int .i64 i ∧ i ≤ l.length ∧ Aside0 (len ≤ 5000 * i) ∧ Aside0 (Two w.heap.size wr w1.heap.size (w1.heap.size + 1) u1 u2 N len) ∧ Aside0 (Below w.heap.size w wr))
    (fun v _ => l.length - (intOf v).toNat)
  case atStart =>
    exact ⟨0, 0, 0, _, _, rfl, by omega, ⟨by omega⟩, ⟨⟨HNW.out, HNQ.out, fun k hk => by simp [Value.ownBlock] at hk⟩⟩, HB2⟩
  case round =>
    clear HNW HNQ HB2 HB1
    obtain ⟨i, N, len, u1, u2, rfl, hi, HLEN, HTW, HB3⟩ := hrel
    by_cases hlt : i < l.length
    · have hd : decide (i < l.length) = true := decide_eq_true hlt
      obtain ⟨ad, hA, hc0, hc1, hc2, hc3⟩ := at_T36 (Kd.C_below HC.out HB3.out) (i : Int) (by omega) (by omega)
      subst hA
      simp only [Int.toNat_natCast] at hc0 hc1 hc2 hc3 ⊢
      obtain ⟨x, hx⟩ : ∃ x, rd_T36 l (i : Int) = x := ⟨_, rfl⟩
      have hxi : l[i] = x := by rw [← hx]; unfold rd_T36; rw [List.getD_eq_getElem?_getD, Int.toNat_natCast, List.getElem?_eq_getElem hlt]; rfl
      rw [hx] at hc0 hc1 hc2 hc3
      have HX := Aside0.mk (HOK.out x (by rw [← hxi]; exact List.getElem_mem hlt))
      clear hx hxi
      by_cases h5 : 500 < x.f3.size
      · have h5b : decide (500 < x.f3.size) = true := decide_eq_true h5
        have h5c : decide ((500 : Int) < (x.f3.size : Int)) = true := decide_eq_true (by omega)
        go_wp2
        go_ret
        exact ⟨rfl, below_alloc HB3.out _⟩
      have h5b : decide (500 < x.f3.size) = false := decide_eq_false h5
      have h5c : decide ((500 : Int) < (x.f3.size : Int)) = false := decide_eq_false (by omega)
      have HB4 := Aside0.mk (below_alloc HB3.out (.cells #[.int .i64 x.f0, .int .i64 x.f1, .int .u32 x.f2, .string x.f3] 36))
      have HW4 := Aside0.mk (HTW.out.a.alloc (.cells #[.int .i64 x.f0, .int .i64 x.f1, .int .u32 x.f2, .string x.f3] 36))
      have HQ4 := Aside0.mk (HTW.out.b.alloc (.cells #[.int .i64 x.f0, .int .i64 x.f1, .int .u32 x.f2, .string x.f3] 36))
      have H8 := Aside0.mk (heap_alloc_new wr (.cells #[.int .i64 x.f0, .int .i64 x.f1, .int .u32 x.f2, .string x.f3] 36))
      have HA4 := Aside0.mk HTW.out.apart
      have HF2 := Aside0.mk (wf_u32 HX.out.2.2.1)
      have HL4 := Aside0.mk (show len ≤ 300000 by have := HLEN.out; omega)
      go_upto_block 2 with (fail)
      clear hc0 hc1 hc2 hc3 HTW HB3
      go_cut [] (fun wc => Aside0 (∃ (N len : Nat) (u1 u2 : Value), len ≤ 5000 * (i + 1) ∧ Two w.heap.size wc w1.heap.size (w1.heap.size + 1) u1 u2 N len ∧ Below w.heap.size w wc))
      case first =>
        generalize wr.alloc (.cells #[.int .i64 x.f0, .int .i64 x.f1, .int .u32 x.f2, .string x.f3] 36) = wx at HW4 HQ4 HB4 H8 ⊢
        have hx0 := blk_cell H8.out 0
        have hx1 := blk_cell H8.out 1
        have hx2 := blk_cell H8.out 2
        have hx3 := blk_cell H8.out 3
        have wr_blk : ∀ {W1 : World} {u' : Value}, Wrote wx W1 w1.heap.size u1 u' → W1.heap[wr.heap.size]? = some (.cells #[.int .i64 x.f0, .int .i64 x.f1, .int .u32 x.f2, .string x.f3] 36 (0, 0)) := by
          intro W1 u' hw
          refine blk_kept H8.out hw.kept (fun hs => ?_)
          rcases hs with hs | hs
          · exact blk_ne H8.out HW4.out.1.blk (by decide) hs
          · obtain ⟨c, hc⟩ := (HW4.out.1.own _ hs.symm).2.2
            exact blk_ne H8.out hc (by decide) rfl
        have WRB := Aside0.mk @wr_blk
        clear wr_blk
        go_wp2_with (first
          | (go_at_call 10; refine (write_any w.heap.size w1.heap.size u1 N len x.f2 x.f1 _ HW4.out HF2.out (by have := HL4.out; omega)).mono ?_; rintro e w5 ⟨rfl, v5, hi5, hw5⟩; have HW5 := Aside0.mk hi5; have HQ5 := Aside0.mk (Two.fst HQ4.out HW4.out HA4.out hw5); have HB5 := Aside0.mk (HW4.out.under hw5 HB4.out); have H85 := Aside0.mk (WRB.out hw5); have hy1 := blk_cell H85.out 1; have hy2 := blk_cell H85.out 2; clear hi5 hw5)
          | (go_at_call 11; refine (rwrite_any w.heap.size (w1.heap.size + 1) u2 N len x.f2 x.f1 _ HQ5.out.1 HF2.out (by have := HL4.out; omega)).mono ?_; rintro e w6 ⟨rfl, v6, hi6, hw6⟩; have HQ6 := Aside0.mk hi6; have HW6 := Aside0.mk (Two.snd HW5.out HQ5.out.1 HQ5.out.2 hw6); have HB6 := Aside0.mk (HQ5.out.1.under hw6 HB5.out); clear hi6 hw6)
          | (go_at_call 12; refine (align_calls w.heap.size w1.heap.size u1 N len _ HW4.out).mono ?_; rintro e w5 ⟨rfl, hi5, hw5⟩; have HW5 := Aside0.mk hi5; have HQ5 := Aside0.mk (Two.fst HQ4.out HW4.out HA4.out hw5); have HB5 := Aside0.mk (HW4.out.under hw5 HB4.out); clear hi5 hw5)
          | (go_at_call 13; refine (ralign_calls w.heap.size (w1.heap.size + 1) u2 N len _ HQ5.out.1 (by have := HL4.out; omega)).mono ?_; rintro e w6 ⟨rfl, v6, hi6, hw6⟩; have HQ6 := Aside0.mk hi6; have HW6 := Aside0.mk (Two.snd HW5.out HQ5.out.1 HQ5.out.2 hw6); have HB6 := Aside0.mk (HQ5.out.1.under hw6 HB5.out); clear hi6 hw6)
          | (go_at_call 14; refine (bytes_calls w.heap.size w1.heap.size u1 N len x.f3 _ HW4.out (by have := HL4.out; omega) (by omega)).mono ?_; rintro e w5 ⟨rfl, v5, hi5, hw5⟩; have HW5 := Aside0.mk hi5; have HQ5 := Aside0.mk (Two.fst HQ4.out HW4.out HA4.out hw5); have HB5 := Aside0.mk (HW4.out.under hw5 HB4.out); have H85 := Aside0.mk (WRB.out hw5); have hy3 := blk_cell H85.out 3; clear hi5 hw5)
          | (go_at_call 15; refine (rbytes_calls w.heap.size (w1.heap.size + 1) u2 N len x.f3 _ HQ5.out.1 (by have := HL4.out; omega) (by omega)).mono ?_; rintro e w6 ⟨rfl, v6, hi6, hw6⟩; have HQ6 := Aside0.mk hi6; have HW6 := Aside0.mk (Two.snd HW5.out HQ5.out.1 HQ5.out.2 hw6); have HB6 := Aside0.mk (HQ5.out.1.under hw6 HB5.out); clear hi6 hw6))
        all_goals go_meet
        all_goals first
          | exact ⟨_, _, _, _, by have := wL_le len x.f1; have := HLEN.out; omega, ⟨HW6.out.1, HQ6.out, HW6.out.2⟩, HB6.out⟩
          | exact ⟨_, _, _, _, by have := HLEN.out; unfold up8; omega, ⟨HW6.out.1, HQ6.out, HW6.out.2⟩, HB6.out⟩
          | exact ⟨N, len, u1, u2, by have := HLEN.out; omega, ⟨HW4.out, HQ4.out, HA4.out⟩, HB4.out⟩
      case rest =>
        clear HLEN HB4 HW4 HQ4 H8 HA4 HL4
        obtain ⟨N, len, u1, u2, hle, htw, hbw⟩ := hcut.out
        have HLEN := Aside0.mk hle
        have HW := Aside0.mk htw.a
        have HQ := Aside0.mk htw.b
        have HAP := Aside0.mk htw.apart
        have HB := Aside0.mk hbw
        clear hcut hle htw hbw
        obtain ⟨A2, c2, hu⟩ := HQ.out.bits
        have HU2 := Aside0.mk hu
        have hcq : wc.cell? ⟨w1.heap.size + 1, 0, none⟩ = some (.slice A2 len c2) := by rw [← hu]; exact (blk_cell HQ.out.1.blk 0).trans rfl
        clear hu
        have hbn : (((len : Nat) : Int) != (len : Int)) = false := by simp
        go_upto_region 23 with (fail)
        refine start_ (n := 15) (S := fun w' => w'.cell? ⟨w1.heap.size + 1, 0, none⟩ = some (.slice A2 len c2)) (ds := []) #[false, false, false, false, false, false, false, false, false, false, false, false, false, false, false] (by kernel_rfl) rfl rfl (hcq) (fun hHeld => ?_)
        refine pure_ (i := 0) (N := some 65) (v := ?_) (a' := ?_) #[true, false, false, false, false, false, false, false, false, false, false, false, false, false, false] rfl rfl (by kernel_rfl) (fun _ _ _ h => h) (Or.inl ⟨by rfl, ?_⟩) ?_ ?_
        rotate_left
        · intro w'
          go_simp
          with_reducible rfl
        rotate_left
        · simp only [Act.put, List.setIfInBounds_toArray, List.set_cons_zero, List.set_cons_succ, i64_w, i32_w]
          rfl
        refine pure_ (i := 2) (N := some 67) (v := ?_) (a' := ?_) #[true, false, true, false, false, false, false, false, false, false, false, false, false, false, false] rfl rfl (by kernel_rfl) (fun _ _ _ h => h) (Or.inl ⟨by rfl, ?_⟩) ?_ ?_
        rotate_left
        · intro w'
          go_simp
          with_reducible rfl
        rotate_left
        · simp only [Act.put, List.setIfInBounds_toArray, List.set_cons_zero, List.set_cons_succ, i64_w, i32_w]
          rfl
        refine pure_ (i := 3) (N := some 68) (v := ?_) (a' := ?_) #[true, false, true, true, false, false, false, false, false, false, false, false, false, false, false] rfl rfl (by kernel_rfl) (fun _ _ _ h => h) (Or.inl ⟨by rfl, ?_⟩) ?_ ?_
        rotate_left
        · intro w'
          go_simp
          with_reducible rfl
        rotate_left
        · simp only [Act.put, List.setIfInBounds_toArray, List.set_cons_zero, List.set_cons_succ, i64_w, i32_w]
          rfl
        refine pure_ (i := 4) (N := some 69) (v := ?_) (a' := ?_) #[true, false, true, true, true, false, false, false, false, false, false, false, false, false, false] rfl rfl (by kernel_rfl) (fun _ _ _ h => h) (Or.inl ⟨by rfl, ?_⟩) ?_ ?_
        rotate_left
        · intro w'
          go_simp
          with_reducible rfl
        rotate_left
        · simp only [Act.put, List.setIfInBounds_toArray, List.set_cons_zero, List.set_cons_succ, i64_w, i32_w]
          rfl
        refine take_ (i := 5) (N := some 70) (v := ?_) (a' := ?_) #[true, false, true, true, true, true, false, false, false, false, false, false, false, false, false] rfl rfl (by kernel_rfl) (fun _ _ _ h => h) (Or.inl ⟨by rfl, ?_⟩) hHeld ?_ ?_
        rotate_left
        · intro w' s0
          go_simp
          with_reducible rfl
        rotate_left
        · simp only [Act.put, List.setIfInBounds_toArray, List.set_cons_zero, List.set_cons_succ, i64_w, i32_w]
          rfl
        refine pure_ (i := 6) (N := some 71) (v := ?_) (a' := ?_) #[true, false, true, true, true, true, true, false, false, false, false, false, false, false, false] rfl rfl (by kernel_rfl) (fun _ _ _ h => h) (Or.inl ⟨by rfl, ?_⟩) ?_ ?_
        rotate_left
        · intro w'
          go_simp
          with_reducible rfl
        rotate_left
        · simp only [Act.put, List.setIfInBounds_toArray, List.set_cons_zero, List.set_cons_succ, i64_w, i32_w]
          rfl
        refine one_ (i := 1) (N := some 66) #[true, true, true, true, true, true, true, false, false, false, false, false, false, false, false] rfl rfl (by kernel_rfl) (by decide) (fun K hK => ?_)
        refine goes_ Try.func16 (by kernel_rfl) rfl #[.pointer (some ⟨w1.heap.size, 0, none⟩)] (by rfl) rfl rfl (by simp only [List.map_toArray, List.map_cons, List.map_nil]; rfl) ?_
        with_reducible refine (len_calls w.heap.size w1.heap.size u1 N len _ (bw_drew HW.out) (by have := HLEN.out; omega)).mono ?_
        rintro e w5 ⟨rfl, hb⟩
        refine ⟨_, rfl, ?_⟩
        have HW5 := Aside0.mk ((bw_drew HW.out).below hb); have HQ5 := Aside0.mk ((rw_drew HQ.out).below hb); have HB5 := Aside0.mk (below_step (below_drew1 HB.out) hb); clear hb
        refine hK.out _ _ (((blk_cell HQ5.out.1.blk 0).trans (by rw [HU2.out]; rfl))) (fun hHeld => ?_)
        clear hK K
        refine norm_ (a' := ?_) ?_ ?_
        rotate_left
        · show Act.put _ (some 66) _ = _
          simp only [Act.put, List.setIfInBounds_toArray, List.set_cons_zero, List.set_cons_succ, i64_w, i32_w]
          rfl
        refine pure_ (i := 7) (N := some 72) (v := ?_) (a' := ?_) #[true, true, true, true, true, true, true, true, false, false, false, false, false, false, false] rfl rfl (by kernel_rfl) (fun _ _ _ h => h) (Or.inl ⟨by rfl, ?_⟩) ?_ ?_
        rotate_left
        · intro w'
          go_simp
          with_reducible rfl
        rotate_left
        · simp only [Act.put, List.setIfInBounds_toArray, List.set_cons_zero, List.set_cons_succ, i64_w, i32_w]
          rfl
        refine pure_ (i := 8) (N := some 73) (v := ?_) (a' := ?_) #[true, true, true, true, true, true, true, true, true, false, false, false, false, false, false] rfl rfl (by kernel_rfl) (fun _ _ _ h => h) (Or.inl ⟨by rfl, ?_⟩) ?_ ?_
        rotate_left
        · intro w'
          go_simp
          with_reducible rfl
        rotate_left
        · simp only [Act.put, List.setIfInBounds_toArray, List.set_cons_zero, List.set_cons_succ, i64_w, i32_w]
          rfl
        refine pure_ (i := 9) (N := some 74) (v := ?_) (a' := ?_) #[true, true, true, true, true, true, true, true, true, true, false, false, false, false, false] rfl rfl (by kernel_rfl) (fun _ _ _ h => h) (Or.inl ⟨by rfl, ?_⟩) ?_ ?_
        rotate_left
        · intro w'
          go_simp
          with_reducible rfl
        rotate_left
        · simp only [Act.put, List.setIfInBounds_toArray, List.set_cons_zero, List.set_cons_succ, i64_w, i32_w]
          rfl
        refine pure_ (i := 11) (N := some 76) (v := ?_) (a' := ?_) #[true, true, true, true, true, true, true, true, true, true, false, true, false, false, false] rfl rfl (by kernel_rfl) (fun _ _ _ h => h) (Or.inl ⟨by rfl, ?_⟩) ?_ ?_
        rotate_left
        · intro w'
          go_simp
          with_reducible rfl
        rotate_left
        · simp only [Act.put, List.setIfInBounds_toArray, List.set_cons_zero, List.set_cons_succ, i64_w, i32_w]
          rfl
        refine one_ (i := 10) (N := some 75) #[true, true, true, true, true, true, true, true, true, true, true, true, false, false, false] rfl rfl (by kernel_rfl) (by decide) (fun K hK => ?_)
        refine goes_ Try.func17 (by kernel_rfl) rfl #[.pointer (some ⟨w1.heap.size, 0, none⟩)] (by rfl) rfl rfl (by simp only [List.map_toArray, List.map_cons, List.map_nil]; rfl) ?_
        with_reducible refine (done_calls w.heap.size w1.heap.size u1 N len _ HW5.out (by have := HLEN.out; omega)).mono ?_
        rintro e w6 ⟨rfl, hb⟩
        refine ⟨_, rfl, ?_⟩
        have HW6 := Aside0.mk (HW5.out.below hb); have HQ6 := Aside0.mk (HQ5.out.below hb); have HB6 := Aside0.mk (below_step HB5.out hb); clear hb
        refine hK.out _ _ (((blk_cell HQ6.out.1.blk 0).trans (by rw [HU2.out]; rfl))) (fun hHeld => ?_)
        clear hK K
        refine norm_ (a' := ?_) ?_ ?_
        rotate_left
        · show Act.put _ (some 75) _ = _
          simp only [Act.put, List.setIfInBounds_toArray, List.set_cons_zero, List.set_cons_succ, i64_w, i32_w]
          rfl
        refine one_ (i := 12) (N := some 77) #[true, true, true, true, true, true, true, true, true, true, true, true, true, false, false] rfl rfl (by kernel_rfl) (by decide) (fun K hK => ?_)
        refine goes_ Try.func18 (by kernel_rfl) rfl #[.pointer (some ⟨w1.heap.size + 1, 0, none⟩)] (by rfl) rfl rfl (by simp only [List.map_toArray, List.map_cons, List.map_nil]; rfl) ?_
        with_reducible refine (rdone_calls w.heap.size (w1.heap.size + 1) u2 N len _ HQ6.out (by have := HLEN.out; omega)).mono ?_
        rintro e w7 ⟨rfl, hb⟩
        refine ⟨_, rfl, ?_⟩
        have HW7 := Aside0.mk (HW6.out.below hb); have HQ7 := Aside0.mk (HQ6.out.below hb); have HB7 := Aside0.mk (below_step HB6.out hb); clear hb
        refine hK.out _ _ (((blk_cell HQ7.out.1.blk 0).trans (by rw [HU2.out]; rfl))) (fun hHeld => ?_)
        clear hK K
        refine norm_ (a' := ?_) ?_ ?_
        rotate_left
        · show Act.put _ (some 77) _ = _
          simp only [Act.put, List.setIfInBounds_toArray, List.set_cons_zero, List.set_cons_succ, i64_w, i32_w]
          rfl
        refine pure_ (i := 13) (N := some 78) (v := ?_) (a' := ?_) #[true, true, true, true, true, true, true, true, true, true, true, true, true, true, false] rfl rfl (by kernel_rfl) (fun _ _ _ h => h) (Or.inl ⟨by rfl, ?_⟩) ?_ ?_
        rotate_left
        · intro w'
          go_simp
          with_reducible rfl
        rotate_left
        · simp only [Act.put, List.setIfInBounds_toArray, List.set_cons_zero, List.set_cons_succ, i64_w, i32_w]
          rfl
        refine pure_ (i := 14) (N := some 79) (v := ?_) (a' := ?_) #[true, true, true, true, true, true, true, true, true, true, true, true, true, true, true] rfl rfl (by kernel_rfl) (fun _ _ _ h => h) (Or.inl ⟨by rfl, ?_⟩) ?_ ?_
        rotate_left
        · intro w'
          go_simp
          with_reducible rfl
        rotate_left
        · simp only [Act.put, List.setIfInBounds_toArray, List.set_cons_zero, List.set_cons_succ, i64_w, i32_w]
          rfl
        refine done_ (by kernel_rfl) ?_
        go_wp2
        go_roundw
        case rel => exact ⟨i + 1, N, len, u1, u2, by go_num, by omega, HLEN, ⟨⟨HW7.out, HQ7.out, HAP.out⟩⟩, HB7⟩
        case measure => simp [intOf]; omega
    · have hd : decide (i < l.length) = false := decide_eq_false hlt
      obtain ⟨r, ht1, ht2⟩ := HT.out
      have HT1 := Aside0.mk ht1
      have HT2 := Aside0.mk ht2
      clear ht1 ht2
      go_wp2_with (first
        | (go_at_call 9; refine (bits_Turn.calls 40 _ _ _ _ HT1.out).mono ?_; rintro e w2 ⟨rfl, ⟨nd, rfl⟩⟩)
        | (go_at_call 19; refine (portmanteauref03_Turn.calls 40 _ _ _ _ HT2.out).mono ?_; rintro e w2 ⟨rfl, ⟨nd2, rfl⟩⟩))
      go_ret
      refine ⟨rfl, ?_⟩
      repeat (apply pw_below_drewN)
      exact HB3.out
end Go.Proofs.Ytdbekngboogaoaa.Walk
