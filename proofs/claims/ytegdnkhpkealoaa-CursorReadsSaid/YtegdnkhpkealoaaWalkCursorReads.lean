/- CursorReads: behind any calls, over any bytes, the cursor answers as the reference's: the walk through the law's own code. -/
import Derived.Test.YtegdnkhpkealoaaCurTotal
import Derived.Test.YtegdnkhpkealoaaAwake
import Derived.Test.YtegdnkhpkealoaaOpens
import Derived.Test.YtegdnkhpkealoaaPx10
import Derived.Test.YtegdnkhpkealoaaPx11
import Derived.Test.YtegdnkhpkealoaaPx12
import Derived.Test.YtegdnkhpkealoaaPx13
import Derived.Test.YtegdnkhpkealoaaPx15
import Derived.Test.YtegdnkhpkealoaaPx16
import Derived.Test.YtegdnkhpkealoaaPx17
import Derived.Test.YtegdnkhpkealoaaPx4
import Derived.Test.YtegdnkhpkealoaaPx5
namespace Go.Proofs.Ytegdnkhpkealoaa.Walk
open Go Go.RowKit Go.Proofs.Ytegdnkhpkealoaa.P Go.Proofs.Ytegdnkhpkealoaa.B Go.Proofs.Ytegdnkhpkealoaa.Num Go.Proofs.Ytegdnkhpkealoaa.Cur Go.Proofs.YtegdnkhpkealoaaW.PrintWords Go.Proofs.YtegdnkhpkealoaaW.PrintLast Go.Proofs.YtegdnkhpkealoaaW.PrintMore
set_option linter.unusedVariables false

theorem keep47 {w0 W W1 : World} {g g2 : Nat} {s s2 : ByteArray} {a b a2 b2 : Int} (h : IsS47 w0 W g s a b) (h2 : IsS56 w0 W g2 s2 a2 b2) (hk : KeepBut W W1 g2 none) : IsS47 w0 W1 g s a b :=
  ⟨hk.blk h.1 (IsS47.ne_blk h h2.1 (by decide)) (by simp), h.2⟩
theorem keep56 {w0 W W1 : World} {g g2 : Nat} {s s2 : ByteArray} {a b a2 b2 : Int} (h : IsS56 w0 W g s a b) (h2 : IsS47 w0 W g2 s2 a2 b2) (hk : KeepBut W W1 g2 none) : IsS56 w0 W1 g s a b :=
  ⟨hk.blk h.1 (IsS56.ne_blk h h2.1 (by decide)) (by simp), h.2⟩

theorem at_same {g : Nat} {s : ByteArray} {a b : Int} {W : World} (h : W.heap[g]? = some (.cells #[.string s, .int .i64 a, .int .i64 b] 56 (0, 0))) :
    Calls Try.prog 23 #[.pointer (some ⟨g, 0, none⟩)] W fun e w' => e = .returned (.int .i64 a) ∧ w' = W := by
  have h1 := cellS56_1 h
  clear h
  go_enter Try.func23, Try.ntmps23
  go_wp2
  go_ret
  exact ⟨rfl, rfl⟩
theorem err_same {g : Nat} {s : ByteArray} {a b : Int} {W : World} (h : W.heap[g]? = some (.cells #[.string s, .int .i64 a, .int .i64 b] 56 (0, 0))) :
    Calls Try.prog 22 #[.pointer (some ⟨g, 0, none⟩)] W fun e w' => e = .returned (.int .i64 b) ∧ w' = W := by
  have h1 := cellS56_2 h
  clear h
  go_enter Try.func22, Try.ntmps22
  go_wp2
  go_ret
  exact ⟨rfl, rfl⟩
theorem left_same {g : Nat} {s : ByteArray} {a b : Int} {W : World} (h : W.heap[g]? = some (.cells #[.string s, .int .i64 a, .int .i64 b] 56 (0, 0))) :
    Calls Try.prog 20 #[.pointer (some ⟨g, 0, none⟩)] W fun e w' => e = .returned (.int .i64 (IntKind.i64.wrap ((s.size : Int) - a))) ∧ ∃ n, w' = W.drewN n := by
  have h0 := cellS56_0 h
  have h1 := cellS56_1 h
  clear h
  go_enter Try.func20, Try.ntmps20
  go_wp2
  repeat (go_quiet (fail); try go_wp2)
  go_ret
  exact ⟨by simp [i64_w], _, rfl⟩

set_option maxHeartbeats 4000000 in
set_option maxRecDepth 100000 in
theorem CursorReads (s : ByteArray) (A : Option Addr) (cap : Nat) (l : List S49) (w : World) (hs : s.size ≤ 140737488351232)
    (hl : l.length ≤ cap) (hC : Kd.C k49 w A l.length l) (hok : ∀ x ∈ l, (Lit.int .i64 x.f0).wf = true ∧ (Lit.int .i64 x.f1).wf = true) (hlen : l.length * 16 ≤ 140737488351232) :
    Calls Try.prog 5 #[.string s, .slice A l.length cap] w fun e w' => e = .returned (.bool true) ∧ Below w.heap.size w w' := by
  have HOK := Aside0.mk hok
  have HC := Aside0.mk hC
  clear hok hC
  have ha : portmanteaulaw01_awake.f 100 = some true := awake_eq 100 (by omega)
  have HA := Aside0.mk ha
  clear ha
  by_cases h5 : (s.size : Int) > 5000
  · have h5b : decide (5000 < (s.size : Int)) = true := decide_eq_true h5
    have h5c : decide (5000 < s.size) = true := decide_eq_true (by omega)
    go_enter Try.func5, Try.ntmps5
    go_wp2_with (go_at_call 7; refine (portmanteaulaw01_awake.calls 100 true _ HA.out).mono ?_; rintro e w1 ⟨rfl, hb⟩)
    go_ret
    exact ⟨rfl, by assumption⟩
  have h5b : decide (5000 < (s.size : Int)) = false := decide_eq_false h5
  have h5c : decide (5000 < s.size) = false := decide_eq_false (by omega)
  by_cases h6 : (l.length : Int) > 60
  · have h6b : decide (60 < (l.length : Int)) = true := decide_eq_true h6
    have h6c : decide (60 < l.length) = true := decide_eq_true (by omega)
    go_enter Try.func5, Try.ntmps5
    go_wp2_with (go_at_call 7; refine (portmanteaulaw01_awake.calls 100 true _ HA.out).mono ?_; rintro e w1 ⟨rfl, hb⟩)
    go_ret
    exact ⟨rfl, by assumption⟩
  have h6b : decide (60 < (l.length : Int)) = false := decide_eq_false h6
  have h6c : decide (60 < l.length) = false := decide_eq_false (by omega)
  go_enter Try.func5, Try.ntmps5
  go_wp2_with (first
    | (go_at_call 7; refine (portmanteaulaw01_awake.calls 100 true _ HA.out).mono ?_; rintro e w1 ⟨rfl, hb⟩; have HB1 := Aside0.mk hb; clear hb)
    | (go_at_call 15; refine (cursor_Over.calls s s 0 0 w _ HB1.out rfl).mono ?_; rintro e w2 ⟨gc, rfl, hi, hb, hb2⟩; have HB2 := Aside0.mk hb; have HI2 := Aside0.mk hi; clear hi hb hb2))
  have hu47 := Try.underlying47
  have hu49 := Try.underlying49
  go_loopw [29] (fun v wr => ∃ (i : Nat) (at_ bad : Int), v = .int .i64 i ∧ i ≤ l.length ∧ 0 ≤ at_ ∧ at_ ≤ s.size ∧ Aside0 (IsS56 w wr gc s at_ bad) ∧ Aside0 (IsS47 w wr (w2.heap.size) s at_ bad) ∧ Aside0 (Below w.heap.size w wr))
    (fun v _ => l.length - (intOf v).toNat)
  case atStart =>
    refine ⟨0, 0, 0, rfl, by omega, by omega, by omega, ⟨HI2.out.alloc _⟩, ⟨IsS47.new w w2 s 0 0 HB2.out⟩, ⟨below_alloc HB2.out _⟩⟩
  case round =>
    obtain ⟨i, at_, bad, rfl, hi, ha0, ha1, HC1, HQ1, HB3⟩ := hrel
    by_cases hlt : i < l.length
    · have hd : decide (i < l.length) = true := decide_eq_true hlt
      obtain ⟨ad, hA, hc0, hc1⟩ := at_T49 (Kd.C_below HC.out HB3.out) (i : Int) (by omega) (by omega)
      subst hA
      simp only [Int.toNat_natCast] at hc0 hc1 ⊢
      obtain ⟨x, hx⟩ : ∃ x, rd_T49 l (i : Int) = x := ⟨_, rfl⟩
      rw [hx] at hc0 hc1
      have hxw := HOK.out x (by rw [← hx]; unfold rd_T49; rw [List.getD_eq_getElem?_getD, Int.toNat_natCast, List.getElem?_eq_getElem hlt]; exact List.getElem_mem hlt)
      have HX := Aside0.mk hxw
      clear hxw hx
      go_upto_block 2 with (fail)
      have HC4 := Aside0.mk (HC1.out.alloc (.cells #[.int .i64 x.f0, .int .i64 x.f1] 49))
      have HQ4 := Aside0.mk (HQ1.out.alloc (.cells #[.int .i64 x.f0, .int .i64 x.f1] 49))
      have HB4 := Aside0.mk (below_alloc HB3.out (.cells #[.int .i64 x.f0, .int .i64 x.f1] 49))
      have H8 := Aside0.mk (heap_alloc_new wr (.cells #[.int .i64 x.f0, .int .i64 x.f1] 49))
      go_cut [9] (fun v9 wc => v9 = .bool true ∧ ∃ (at' bad' : Int), 0 ≤ at' ∧ at' ≤ s.size ∧ Aside0 (IsS56 w wc gc s at' bad') ∧ Aside0 (IsS47 w wc w2.heap.size s at' bad') ∧ Aside0 (Below w.heap.size w wc))
      case first =>
        generalize wr.alloc (.cells #[.int .i64 x.f0, .int .i64 x.f1] 49) = wx at HC4 HQ4 HB4 H8 ⊢
        obtain ⟨r1, p1, q1, b10, b11, b12, b13, F1, G1⟩ := both_one (bad := bad) hs ha0 ha1
        obtain ⟨r2, p2, q2, b20, b21, b22, b23, F2, G2⟩ := both_two (bad := bad) hs ha0 ha1
        obtain ⟨r4, p4, q4, b40, b41, b42, b43, F4, G4⟩ := both_four (bad := bad) hs ha0 ha1
        obtain ⟨r8, p8, q8, b80, b81, b82, b83, F8, G8⟩ := both_eight (bad := bad) hs ha0 ha1
        have hx1 := blk_cell H8.out 1
        have hx0 := blk_cell H8.out 0
        have hq0 := cellS47_0 HQ4.out.1
        have hq1 := cellS47_1 HQ4.out.1
        have hq2 := cellS47_2 HQ4.out.1
        go_wp2_with (first
          | (go_at_call 16; (with_reducible refine (cursor_Cursor_Two.calls 9 gc s at_ bad r2 s p2 q2 w _ HC4.out HB4.out F2.out).mono ?_); rintro e w5 ⟨rfl, hi, hb, hk⟩; have HQ5 := Aside0.mk (keep47 HQ4.out HC4.out hk); have HC5 := Aside0.mk hi; have HB5 := Aside0.mk hb; clear hi hb hk)
          | (go_at_call 17; (with_reducible refine (cursor_Cursor_Four.calls 9 gc s at_ bad r4 s p4 q4 w _ HC4.out HB4.out F4.out).mono ?_); rintro e w5 ⟨rfl, hi, hb, hk⟩; have HQ5 := Aside0.mk (keep47 HQ4.out HC4.out hk); have HC5 := Aside0.mk hi; have HB5 := Aside0.mk hb; clear hi hb hk)
          | (go_at_call 19; (with_reducible refine (cursor_Cursor_Eight.calls 9 gc s at_ bad r8 s p8 q8 w _ HC4.out HB4.out F8.out).mono ?_); rintro e w5 ⟨rfl, hi, hb, hk⟩; have HQ5 := Aside0.mk (keep47 HQ4.out HC4.out hk); have HC5 := Aside0.mk hi; have HB5 := Aside0.mk hb; clear hi hb hk)
          | (go_at_call 27; (with_reducible refine (cursor_Cursor_One.calls 9 gc s at_ bad r1 s p1 q1 w _ HC4.out HB4.out F1.out).mono ?_); rintro e w5 ⟨rfl, hi, hb, hk⟩; have HQ5 := Aside0.mk (keep47 HQ4.out HC4.out hk); have HC5 := Aside0.mk hi; have HB5 := Aside0.mk hb; clear hi hb hk)
          | (go_at_call 24; (with_reducible refine (portmanteauref01_Cursor_Num.calls 9 w2.heap.size s at_ bad 2 r2 s p2 q2 w _ HQ5.out HB5.out G2.out).mono ?_); rintro e w6 ⟨rfl, hi, hb, hk⟩; have HC6 := Aside0.mk (keep56 HC5.out HQ5.out hk); have HQ6 := Aside0.mk hi; have HB6 := Aside0.mk hb; clear hi hb hk)
          | (go_at_call 24; (with_reducible refine (portmanteauref01_Cursor_Num.calls 9 w2.heap.size s at_ bad 4 r4 s p4 q4 w _ HQ5.out HB5.out G4.out).mono ?_); rintro e w6 ⟨rfl, hi, hb, hk⟩; have HC6 := Aside0.mk (keep56 HC5.out HQ5.out hk); have HQ6 := Aside0.mk hi; have HB6 := Aside0.mk hb; clear hi hb hk)
          | (go_at_call 24; (with_reducible refine (portmanteauref01_Cursor_Num.calls 9 w2.heap.size s at_ bad 8 r8 s p8 q8 w _ HQ5.out HB5.out G8.out).mono ?_); rintro e w6 ⟨rfl, hi, hb, hk⟩; have HC6 := Aside0.mk (keep56 HC5.out HQ5.out hk); have HQ6 := Aside0.mk hi; have HB6 := Aside0.mk hb; clear hi hb hk)
          | (go_at_call 24; (with_reducible refine (portmanteauref01_Cursor_Num.calls 9 w2.heap.size s at_ bad 1 r1 s p1 q1 w _ HQ5.out HB5.out G1.out).mono ?_); rintro e w6 ⟨rfl, hi, hb, hk⟩; have HC6 := Aside0.mk (keep56 HC5.out HQ5.out hk); have HQ6 := Aside0.mk hi; have HB6 := Aside0.mk hb; clear hi hb hk))
        all_goals try (go_meet; first | exact ⟨rfl, p1, q1, b12, b13, HC6, HQ6, HB6⟩ | exact ⟨rfl, p2, q2, b22, b23, HC6, HQ6, HB6⟩ | exact ⟨rfl, p4, q4, b42, b43, HC6, HQ6, HB6⟩ | exact ⟨rfl, p8, q8, b82, b83, HC6, HQ6, HB6⟩)
        all_goals try clear F1 G1 F2 G2 F4 G4 F8 G8
        all_goals try clear b10 b11 b12 b13 b20 b21 b22 b23 b40 b41 b42 b43 b80 b81 b82 b83
        all_goals have hxw := wf_i64 HX.out.2
        all_goals obtain ⟨t, pt, qt, bt2, bt3, FT, GT, PT⟩ := both_take (bad := bad) hs ha0 ha1 x.f1 hxw
        rotate_left 4
        iterate 2
          · by_cases h1 : x.f1 < 0
            · have h1b : decide (x.f1 < 0) = true := decide_eq_true h1
              go_wp2_with (go_at_call 26; (with_reducible refine (cursor_Cursor_Seek.calls gc s at_ bad x.f1 2 s at_ bad w _ HC4.out HB4.out (by unfold cursor_Cursor_Seek.f; first | rw [if_pos h1] | rw [if_neg h1, if_pos h2] | rw [if_neg h1, if_neg h2])).mono ?_); rintro e w5 ⟨rfl, hi, hb, hk⟩; have HQ5 := Aside0.mk (keep47 HQ4.out HC4.out hk); have HC5 := Aside0.mk hi; have HB5 := Aside0.mk hb; have H85 := Aside0.mk (hk.blk H8.out (Ne.symm (IsS56.ne_blk HC4.out H8.out (by decide))) (by simp)); clear hi hb hk; have hy1 := blk_cell H85.out 1; have hz1 := cellS47_1 HQ5.out.1; have hz2 := cellS47_2 HQ5.out.1; have hf1 := blk_frozen HQ5.out.1 1; have hf2 := blk_frozen HQ5.out.1 2)
              all_goals (go_meet; exact ⟨rfl, at_, bad, ha0, ha1, HC5, HQ5, HB5⟩)
            · by_cases h2 : x.f1 > (s.size : Int)
              · have h2b : decide ((s.size : Int) < x.f1) = true := decide_eq_true h2
                have h2c : decide (x.f1 ≤ (s.size : Int)) = false := decide_eq_false (by omega)
                go_wp2_with (go_at_call 26; (with_reducible refine (cursor_Cursor_Seek.calls gc s at_ bad x.f1 2 s at_ bad w _ HC4.out HB4.out (by unfold cursor_Cursor_Seek.f; first | rw [if_pos h1] | rw [if_neg h1, if_pos h2] | rw [if_neg h1, if_neg h2])).mono ?_); rintro e w5 ⟨rfl, hi, hb, hk⟩; have HQ5 := Aside0.mk (keep47 HQ4.out HC4.out hk); have HC5 := Aside0.mk hi; have HB5 := Aside0.mk hb; have H85 := Aside0.mk (hk.blk H8.out (Ne.symm (IsS56.ne_blk HC4.out H8.out (by decide))) (by simp)); clear hi hb hk; have hy1 := blk_cell H85.out 1; have hz1 := cellS47_1 HQ5.out.1; have hz2 := cellS47_2 HQ5.out.1; have hf1 := blk_frozen HQ5.out.1 1; have hf2 := blk_frozen HQ5.out.1 2)
                all_goals (go_meet; exact ⟨rfl, at_, bad, ha0, ha1, HC5, HQ5, HB5⟩)
              · have h2b : decide ((s.size : Int) < x.f1) = false := decide_eq_false h2
                go_wp2_with (go_at_call 26; (with_reducible refine (cursor_Cursor_Seek.calls gc s at_ bad x.f1 0 s x.f1 0 w _ HC4.out HB4.out (by unfold cursor_Cursor_Seek.f; first | rw [if_pos h1] | rw [if_neg h1, if_pos h2] | rw [if_neg h1, if_neg h2])).mono ?_); rintro e w5 ⟨rfl, hi, hb, hk⟩; have HQ5 := Aside0.mk (keep47 HQ4.out HC4.out hk); have HC5 := Aside0.mk hi; have HB5 := Aside0.mk hb; have H85 := Aside0.mk (hk.blk H8.out (Ne.symm (IsS56.ne_blk HC4.out H8.out (by decide))) (by simp)); clear hi hb hk; have hy1 := blk_cell H85.out 1; have hz1 := cellS47_1 HQ5.out.1; have hz2 := cellS47_2 HQ5.out.1; have hf1 := blk_frozen HQ5.out.1 1; have hf2 := blk_frozen HQ5.out.1 2)
                all_goals (go_meet; exact ⟨rfl, x.f1, 0, by omega, by omega, ⟨(HC5.out.far (IsS56.ne_blk HC5.out HQ5.out.1 (by decide)) _).far (IsS56.ne_blk HC5.out HQ5.out.1 (by decide)) _⟩, ⟨(HQ5.out.set_1 x.f1).set_2 0⟩, ⟨below_set (below_set HB5.out HQ5.out.2) HQ5.out.2⟩⟩)
        iterate 2
          · clear hx0 hq0 hq1 hq2
            go_region_held3 (fun W' => W'.cell? ⟨wr.heap.size, 1, none⟩ = some (.int .i64 x.f1)) (first | exact hx1 | exact hy1 | exact hz1)
              (first
                | (go_at_call 18; (with_reducible refine (cursor_Cursor_Take.calls gc s at_ bad x.f1 t s pt qt w _ HC4.out.drew (below_drew1 HB4.out) FT.out).mono ?_); rintro e w5 ⟨rfl, hi, hb, hk⟩; have HQ5 := Aside0.mk (keep47 HQ4.out.drew HC4.out.drew hk); have HC5 := Aside0.mk hi; have HB5 := Aside0.mk hb; have H85 := Aside0.mk (hk.blk (show wx.drew.heap[_]? = _ from H8.out) (Ne.symm (IsS56.ne_blk HC4.out H8.out (by decide))) (by simp)); have hy1 := blk_cell H85.out 1; clear hi hb hk)
                | (go_at_call 25; (with_reducible refine (portmanteauref01_Cursor_Take.calls w2.heap.size s at_ bad x.f1 t s pt qt w _ HQ5.out HB5.out GT.out).mono ?_); rintro e w6 ⟨rfl, hi, hb, hk⟩; have HC6 := Aside0.mk (keep56 HC5.out HQ5.out hk); have HQ6 := Aside0.mk hi; have HB6 := Aside0.mk hb; have hz1 := blk_cell (hk.blk H85.out (Ne.symm (IsS47.ne_blk HQ5.out H85.out (by decide))) (by simp)) 1; clear hi hb hk))
            all_goals (go_wp2; go_meet; exact ⟨rfl, pt, qt, bt2, bt3, HC6, HQ6, HB6⟩)
        iterate 2
          · clear hx0 hq0 hq1 hq2
            have HP4 := Aside0.mk (IsS47.new w wx s at_ bad HB4.out)
            have hpq := Aside0.mk (Nat.ne_of_lt (IsS47.lt HQ4.out))
            have HC4 := Aside0.mk (HC4.out.alloc (.cells #[.string s, .int .i64 at_, .int .i64 bad] 47))
            have HQ4 := Aside0.mk (HQ4.out.alloc (.cells #[.string s, .int .i64 at_, .int .i64 bad] 47))
            have HB4 := Aside0.mk (below_alloc HB4.out (.cells #[.string s, .int .i64 at_, .int .i64 bad] 47))
            have H8 := Aside0.mk (blk_grown H8.out (World.grownBy_alloc wx (.cells #[.string s, .int .i64 at_, .int .i64 bad] 47) none) (by simp))
            have hx2 := blk_cell H8.out 1
            go_region_held3 (fun W' => W'.cell? ⟨wr.heap.size, 1, none⟩ = some (.int .i64 x.f1)) (first | exact hx1 | exact hx2 | exact hy1 | exact hz1)
              (first
                | (go_at_call 21; (with_reducible refine (cursor_Cursor_Peek.calls gc s at_ bad x.f1 t s at_ bad w _ HC4.out.drew (below_drew1 HB4.out) PT.out).mono ?_); rintro e w5 ⟨rfl, hi, hb, hk⟩; have HQ5 := Aside0.mk (keep47 HQ4.out.drew HC4.out.drew hk); have HP5 := Aside0.mk (keep47 HP4.out.drew HC4.out.drew hk); have HC5 := Aside0.mk hi; have HB5 := Aside0.mk hb; have H85 := Aside0.mk (hk.blk (show (World.drew _).heap[_]? = _ from H8.out) (Ne.symm (IsS56.ne_blk HC4.out H8.out (by decide))) (by simp)); have hy1 := blk_cell H85.out 1; clear hi hb hk)
                | (go_at_call 25; (with_reducible refine (portmanteauref01_Cursor_Take.calls wx.heap.size s at_ bad x.f1 t s pt qt w _ HP5.out HB5.out GT.out).mono ?_); rintro e w6 ⟨rfl, hi, hb, hk⟩; have HC6 := Aside0.mk (keep56 HC5.out HP5.out hk); have HQ6 := Aside0.mk (show IsS47 w w6 w2.heap.size s at_ bad from ⟨hk.blk HQ5.out.1 hpq.out (by simp), HQ5.out.2⟩); have HB6 := Aside0.mk hb; have hz1 := blk_cell (hk.blk H85.out (Ne.symm (IsS47.ne_blk HP5.out H85.out (by decide))) (by simp)) 1; clear hi hb hk))
            all_goals (go_wp2; go_meet; exact ⟨rfl, at_, bad, ha0, ha1, HC6, HQ6, HB6⟩)
      case rest =>
        obtain ⟨rfl, a5, b5, c50, c51, HC5, HQ5, HB5⟩ := hcut
        clear hc0 hc1
        have hq1 := cellS47_1 HQ5.out.1
        have hq2 := cellS47_2 HQ5.out.1
        have hsz : IntKind.i64.wrap ((s.size : Int) - a5) = (s.size : Int) - a5 := IntWalk.i64_in _ (by omega)
        go_wp2
        go_quiet (first
          | (go_at_call 23; exact Calls.quiet_of_same (at_same HC5.out.1))
          | (go_at_call 22; exact Calls.quiet_of_same (err_same HC5.out.1))
          | (go_at_call 20; exact Calls.quiet_of (left_same HC5.out.1)))
        go_wp2
        go_roundw
        case rel => exact ⟨i + 1, a5, b5, by go_num, by omega, c50, c51, ⟨HC5.out.drewN _⟩, ⟨HQ5.out.drewN _⟩, ⟨pw_below_drewN HB5.out _⟩⟩
        case measure => simp [intOf]; omega
    · have hd : decide (i < l.length) = false := decide_eq_false hlt
      go_wp2
      go_ret
      exact ⟨rfl, HB3.out⟩
end Go.Proofs.Ytegdnkhpkealoaa.Walk
