/- BitsReads: behind any calls, over any bytes, the reader of bits answers as the reference's: the walk through the law's own code. -/
import Derived.Test.YtdbekngboogaoaaReader
import Derived.Test.YtdbekngboogaoaaAwake
import Derived.Test.YtdbekngboogaoaaOpens
import Derived.Test.YtdbekngboogaoaaPx1
import Derived.Test.YtdbekngboogaoaaPx10
import Derived.Test.YtdbekngboogaoaaPx11
import Derived.Test.YtdbekngboogaoaaPx12
import Derived.Test.YtdbekngboogaoaaPx13
import Derived.Test.YtdbekngboogaoaaPx3
import Derived.Test.YtdbekngboogaoaaPx7
import Derived.Test.YtdbekngboogaoaaPx8
namespace Go.Proofs.Ytdbekngboogaoaa.Walk
open Go Go.RowKit Go.Proofs.Ytdbekngboogaoaa.P Go.Proofs.Ytdbekngboogaoaa.B Go.Proofs.Ytdbekngboogaoaa.Bn Go.Proofs.Ytdbekngboogaoaa.Rd Go.Proofs.YtdbekngboogaoaaW.PrintWords Go.Proofs.YtdbekngboogaoaaW.PrintLast Go.Proofs.YtdbekngboogaoaaW.PrintMore
set_option linter.unusedVariables false

theorem keepR {w0 W W1 : World} {g g2 : Nat} {s s2 : ByteArray} {a b a2 b2 : Int} (h : IsS58 w0 W g s a b) (h2 : IsS52 w0 W g2 s2 a2 b2) (hk : KeepBut W W1 g2 none) : IsS58 w0 W1 g s a b :=
  ⟨hk.blk h.1 (IsS58.ne_blk h h2.1 (by decide)) (by simp), h.2⟩
theorem keepQ {w0 W W1 : World} {g g2 : Nat} {s s2 : ByteArray} {a b a2 b2 : Int} (h : IsS52 w0 W g s a b) (h2 : IsS58 w0 W g2 s2 a2 b2) (hk : KeepBut W W1 g2 none) : IsS52 w0 W1 g s a b :=
  ⟨hk.blk h.1 (IsS52.ne_blk h h2.1 (by decide)) (by simp), h.2⟩

theorem at_same {g : Nat} {s : ByteArray} {a b : Int} {W : World} (h : W.heap[g]? = some (.cells #[.string s, .int .i64 a, .int .i64 b] 58 (0, 0))) :
    Calls Try.prog 24 #[.pointer (some ⟨g, 0, none⟩)] W fun e w' => e = .returned (.int .i64 a) ∧ w' = W := by
  have h1 := cellS58_1 h
  clear h
  go_enter Try.func24, Try.ntmps24
  go_wp2
  go_ret
  exact ⟨rfl, rfl⟩
theorem err_same {g : Nat} {s : ByteArray} {a b : Int} {W : World} (h : W.heap[g]? = some (.cells #[.string s, .int .i64 a, .int .i64 b] 58 (0, 0))) :
    Calls Try.prog 23 #[.pointer (some ⟨g, 0, none⟩)] W fun e w' => e = .returned (.int .i64 b) ∧ w' = W := by
  have h1 := cellS58_2 h
  clear h
  go_enter Try.func23, Try.ntmps23
  go_wp2
  go_ret
  exact ⟨rfl, rfl⟩

set_option maxHeartbeats 4000000 in
set_option maxRecDepth 100000 in
theorem BitsReads (s : ByteArray) (A : Option Addr) (cap : Nat) (l : List S36) (w : World) (hs : s.size ≤ 140737488351232)
    (hl : l.length ≤ cap) (hC : Kd.C k36 w A l.length l) (hok : ∀ x ∈ l, (Lit.int .i64 x.f0).wf = true ∧ (Lit.int .i64 x.f1).wf = true ∧ (Lit.int .u32 x.f2).wf = true ∧ x.f3.size ≤ maxLen) (hlen : l.length * 40 ≤ 140737488351232) :
    Calls Try.prog 6 #[.string s, .slice A l.length cap] w fun e w' => e = .returned (.bool true) ∧ Below w.heap.size w w' := by
  have HOK := Aside0.mk hok
  have HC := Aside0.mk hC
  clear hok hC
  by_cases h5 : (s.size : Int) > 2000
  · have h5b : decide (2000 < (s.size : Int)) = true := decide_eq_true h5
    have h5c : decide (2000 < s.size) = true := decide_eq_true (by omega)
    go_enter Try.func6, Try.ntmps6
    go_wp2_with (go_at_call 8; refine (awake_calls _).mono ?_; rintro e w1 ⟨rfl, hb⟩)
    go_ret
    exact ⟨rfl, by assumption⟩
  have h5b : decide (2000 < (s.size : Int)) = false := decide_eq_false h5
  have h5c : decide (2000 < s.size) = false := decide_eq_false (by omega)
  by_cases h6 : (l.length : Int) > 60
  · have h6b : decide (60 < (l.length : Int)) = true := decide_eq_true h6
    have h6c : decide (60 < l.length) = true := decide_eq_true (by omega)
    go_enter Try.func6, Try.ntmps6
    go_wp2_with (go_at_call 8; refine (awake_calls _).mono ?_; rintro e w1 ⟨rfl, hb⟩)
    go_ret
    exact ⟨rfl, by assumption⟩
  have h6b : decide (60 < (l.length : Int)) = false := decide_eq_false h6
  have h6c : decide (60 < l.length) = false := decide_eq_false (by omega)
  go_enter Try.func6, Try.ntmps6
  go_wp2_with (first
    | (go_at_call 8; refine (awake_calls _).mono ?_; rintro e w1 ⟨rfl, hb⟩; have HB1 := Aside0.mk hb; clear hb)
    | (go_at_call 20; refine (bits_Over.calls s s 0 0 w _ HB1.out rfl).mono ?_; rintro e w2 ⟨gc, rfl, hi, hb, hb2⟩; have HB2 := Aside0.mk hb; have HI2 := Aside0.mk hi; clear hi hb hb2))
  have hu1 := Try.underlying52
  have hu2 := Try.underlying36
  go_loopw [31] (fun v wr => ∃ (i : Nat) (at_ bad : Int), v = .int .i64 i ∧ i ≤ l.length ∧ Aside0 (RPlace s at_) ∧ Aside0 (IsS58 w wr gc s at_ bad) ∧ Aside0 (IsS52 w wr (w2.heap.size) s at_ bad) ∧ Aside0 (Below w.heap.size w wr))
    (fun v _ => l.length - (intOf v).toNat)
  case atStart =>
    refine ⟨0, 0, 0, rfl, by omega, ⟨by omega, 0, rfl, by omega⟩, ⟨HI2.out.alloc _⟩, ⟨IsS52.new w w2 s 0 0 HB2.out⟩, ⟨below_alloc HB2.out _⟩⟩
  case round =>
    obtain ⟨i, at_, bad, rfl, hi, HP, HC1, HQ1, HB3⟩ := hrel
    by_cases hlt : i < l.length
    · have hd : decide (i < l.length) = true := decide_eq_true hlt
      obtain ⟨ad, hA, hc0, hc1, hc2, hc3⟩ := at_T36 (Kd.C_below HC.out HB3.out) (i : Int) (by omega) (by omega)
      subst hA
      simp only [Int.toNat_natCast] at hc0 hc1 hc2 hc3 ⊢
      obtain ⟨x, hx⟩ : ∃ x, rd_T36 l (i : Int) = x := ⟨_, rfl⟩
      rw [hx] at hc0 hc1 hc2 hc3
      have hxw := HOK.out x (by rw [← hx]; unfold rd_T36; rw [List.getD_eq_getElem?_getD, Int.toNat_natCast, List.getElem?_eq_getElem hlt]; exact List.getElem_mem hlt)
      have HX := Aside0.mk hxw
      clear hxw hx
      go_upto_block 2 with (fail)
      have HC4 := Aside0.mk (HC1.out.alloc (.cells #[.int .i64 x.f0, .int .i64 x.f1, .int .u32 x.f2, .string x.f3] 36))
      have HQ4 := Aside0.mk (HQ1.out.alloc (.cells #[.int .i64 x.f0, .int .i64 x.f1, .int .u32 x.f2, .string x.f3] 36))
      have HB4 := Aside0.mk (below_alloc HB3.out (.cells #[.int .i64 x.f0, .int .i64 x.f1, .int .u32 x.f2, .string x.f3] 36))
      have H8 := Aside0.mk (heap_alloc_new wr (.cells #[.int .i64 x.f0, .int .i64 x.f1, .int .u32 x.f2, .string x.f3] 36))
      go_cut [9] (fun v9 wc => v9 = .bool true ∧ ∃ (at' bad' : Int), Aside0 (RPlace s at') ∧ Aside0 (IsS58 w wc gc s at' bad') ∧ Aside0 (IsS52 w wc w2.heap.size s at' bad') ∧ Aside0 (Below w.heap.size w wc))
      case first =>
        generalize wr.alloc (.cells #[.int .i64 x.f0, .int .i64 x.f1, .int .u32 x.f2, .string x.f3] 36) = wx at HC4 HQ4 HB4 H8 ⊢
        obtain ⟨pv, pm, fp, gp⟩ := peek_same s at_ bad x.f1 HP.out
        obtain ⟨sa, se, fs, gs, ps⟩ := skip_same s at_ bad x.f1 HP.out
        obtain ⟨aa, fa, ga, pa, _⟩ := align_same s at_ bad HP.out
        obtain ⟨bt_, ba, be, fb, gb, pb⟩ := bytes_same s at_ bad x.f1 HP.out (wf_i64 HX.out.2.1).2
        obtain ⟨rv, ra, re, fr, gr, pr⟩ := read_same s at_ bad x.f1 HP.out
        have FP := Aside0.mk fp; have GP := Aside0.mk gp; have FS := Aside0.mk fs; have GS := Aside0.mk gs; have PS := Aside0.mk ps; have FA := Aside0.mk fa; have GA := Aside0.mk ga; have PA := Aside0.mk pa; have FB := Aside0.mk fb; have GB := Aside0.mk gb; have PB := Aside0.mk pb; have FR := Aside0.mk fr; have GR := Aside0.mk gr; have PR := Aside0.mk pr
        clear fp gp fs gs ps fa ga pa fb gb pb fr gr pr
        have hx1 := blk_cell H8.out 1
        have hx0 := blk_cell H8.out 0
        go_wp2_with (first
          | (go_at_call 25; (with_reducible refine (bits_Reader_Peek.calls 50 gc s at_ bad x.f1 pv pm s at_ bad w _ HC4.out HB4.out FP.out).mono ?_); rintro e w5 ⟨rfl, hi, hb, hk⟩; have HQ5 := Aside0.mk (keepQ HQ4.out HC4.out hk); have HC5 := Aside0.mk hi; have HB5 := Aside0.mk hb; have H85 := Aside0.mk (hk.blk H8.out (Ne.symm (IsS58.ne_blk HC4.out H8.out (by decide))) (by simp)); have hy1 := blk_cell H85.out 1; clear hi hb hk)
          | (go_at_call 26; (with_reducible refine (portmanteauref03_Reader_Peek.calls 50 w2.heap.size s at_ bad x.f1 pv pm s at_ bad w _ HQ5.out HB5.out GP.out).mono ?_); rintro e w6 ⟨rfl, hi, hb, hk⟩; have HC6 := Aside0.mk (keepR HC5.out HQ5.out hk); have HQ6 := Aside0.mk hi; have HB6 := Aside0.mk hb; clear hi hb hk)
          | (go_at_call 27; (with_reducible refine (bits_Reader_Skip.calls gc s at_ bad x.f1 s sa se w _ HC4.out HB4.out FS.out).mono ?_); rintro e w5 ⟨rfl, hi, hb, hk⟩; have HQ5 := Aside0.mk (keepQ HQ4.out HC4.out hk); have HC5 := Aside0.mk hi; have HB5 := Aside0.mk hb; have H85 := Aside0.mk (hk.blk H8.out (Ne.symm (IsS58.ne_blk HC4.out H8.out (by decide))) (by simp)); have hy1 := blk_cell H85.out 1; clear hi hb hk)
          | (go_at_call 28; (with_reducible refine (portmanteauref03_Reader_Skip.calls w2.heap.size s at_ bad x.f1 s sa se w _ HQ5.out HB5.out GS.out).mono ?_); rintro e w6 ⟨rfl, hi, hb, hk⟩; have HC6 := Aside0.mk (keepR HC5.out HQ5.out hk); have HQ6 := Aside0.mk hi; have HB6 := Aside0.mk hb; clear hi hb hk)
          | (go_at_call 29; (with_reducible refine (bits_Reader_Align.calls gc s at_ bad s aa bad w _ HC4.out HB4.out FA.out).mono ?_); rintro e w5 ⟨rfl, hi, hb, hk⟩; have HQ5 := Aside0.mk (keepQ HQ4.out HC4.out hk); have HC5 := Aside0.mk hi; have HB5 := Aside0.mk hb; clear hi hb hk)
          | (go_at_call 30; (with_reducible refine (portmanteauref03_Reader_Align.calls 50 w2.heap.size s at_ bad s aa bad w _ HQ5.out HB5.out GA.out).mono ?_); rintro e w6 ⟨rfl, hi, hb, hk⟩; have HC6 := Aside0.mk (keepR HC5.out HQ5.out hk); have HQ6 := Aside0.mk hi; have HB6 := Aside0.mk hb; clear hi hb hk))
        all_goals try (go_meet; first | exact ⟨rfl, at_, bad, HP, HC6, HQ6, HB6⟩ | exact ⟨rfl, sa, se, PS, HC6, HQ6, HB6⟩ | exact ⟨rfl, aa, bad, PA, HC6, HQ6, HB6⟩)
        iterate 2
          · clear hx0
            go_region_held3 (fun W' => W'.cell? ⟨wr.heap.size, 1, none⟩ = some (.int .i64 x.f1)) (first | exact hx1 | exact hy1 | exact hz1)
              (first
                | (go_at_call 22; (with_reducible refine (bits_Reader_Bytes.calls gc s at_ bad x.f1 bt_ s ba be w _ HC4.out.drew (below_drew1 HB4.out) FB.out).mono ?_); rintro e w5 ⟨rfl, hi, hb, hk⟩; have HQ5 := Aside0.mk (keepQ HQ4.out.drew HC4.out.drew hk); have HC5 := Aside0.mk hi; have HB5 := Aside0.mk hb; have H85 := Aside0.mk (hk.blk (show (World.drew _).heap[_]? = _ from H8.out) (Ne.symm (IsS58.ne_blk HC4.out H8.out (by decide))) (by simp)); have hy1 := blk_cell H85.out 1; clear hi hb hk)
                | (go_at_call 31; (with_reducible refine (portmanteauref03_Reader_Bytes.calls 50 w2.heap.size s at_ bad x.f1 bt_ s ba be w _ HQ5.out HB5.out GB.out).mono ?_); rintro e w6 ⟨rfl, hi, hb, hk⟩; have HC6 := Aside0.mk (keepR HC5.out HQ5.out hk); have HQ6 := Aside0.mk hi; have HB6 := Aside0.mk hb; have hz1 := blk_cell (hk.blk H85.out (Ne.symm (IsS52.ne_blk HQ5.out H85.out (by decide))) (by simp)) 1; clear hi hb hk))
            all_goals (go_wp2; go_meet; exact ⟨rfl, ba, be, PB, HC6, HQ6, HB6⟩)
        clear hx0
        go_region_held3 (fun W' => W'.cell? ⟨wr.heap.size, 1, none⟩ = some (.int .i64 x.f1)) (first | exact hx1 | exact hy1 | exact hz1)
          (first
            | (go_at_call 21; (with_reducible refine (bits_Reader_Read.calls 50 gc s at_ bad x.f1 rv s ra re w _ HC4.out.drew (below_drew1 HB4.out) FR.out).mono ?_); rintro e w5 ⟨rfl, hi, hb, hk⟩; have HQ5 := Aside0.mk (keepQ HQ4.out.drew HC4.out.drew hk); have HC5 := Aside0.mk hi; have HB5 := Aside0.mk hb; have H85 := Aside0.mk (hk.blk (show (World.drew _).heap[_]? = _ from H8.out) (Ne.symm (IsS58.ne_blk HC4.out H8.out (by decide))) (by simp)); have hy1 := blk_cell H85.out 1; clear hi hb hk)
            | (go_at_call 32; (with_reducible refine (portmanteauref03_Reader_Read.calls 50 w2.heap.size s at_ bad x.f1 rv s ra re w _ HQ5.out HB5.out GR.out).mono ?_); rintro e w6 ⟨rfl, hi, hb, hk⟩; have HC6 := Aside0.mk (keepR HC5.out HQ5.out hk); have HQ6 := Aside0.mk hi; have HB6 := Aside0.mk hb; have hz1 := blk_cell (hk.blk H85.out (Ne.symm (IsS52.ne_blk HQ5.out H85.out (by decide))) (by simp)) 1; clear hi hb hk))
        all_goals (go_wp2; go_meet; exact ⟨rfl, ra, re, PR, HC6, HQ6, HB6⟩)
      case rest =>
        obtain ⟨rfl, a5, b5, HP5, HC5, HQ5, HB5⟩ := hcut
        clear hc0 hc1 hc2 hc3
        have hq1 := cellS52_1 HQ5.out.1
        have hq2 := cellS52_2 HQ5.out.1
        go_wp2
        go_quiet (first
          | (go_at_call 24; exact Calls.quiet_of_same (at_same HC5.out.1))
          | (go_at_call 23; exact Calls.quiet_of_same (err_same HC5.out.1)))
        go_wp2
        go_roundw
        case rel => exact ⟨i + 1, a5, b5, by go_num, by omega, HP5, ⟨HC5.out.drewN _⟩, ⟨HQ5.out.drewN _⟩, ⟨pw_below_drewN HB5.out _⟩⟩
        case measure => simp [intOf]; omega
    · have hd : decide (i < l.length) = false := decide_eq_false hlt
      go_wp2
      go_ret
      exact ⟨rfl, HB3.out⟩
end Go.Proofs.Ytdbekngboogaoaa.Walk
