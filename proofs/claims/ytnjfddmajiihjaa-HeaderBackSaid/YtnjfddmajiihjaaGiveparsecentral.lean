import Derived.Test.YtnjfddmajiihjaaGiveparselocal
import Derived.Test.YtnjfddmajiihjaaPx10
import Derived.Test.YtnjfddmajiihjaaPx9
namespace Go.Proofs.Ytnjfddmajiihjaa.P
set_option linter.unusedVariables false
set_option linter.unusedSimpArgs false
open Go Go.RowKit Go.Proofs.Ytnjfddmajiihjaa.B Go.Proofs.Ytnjfddmajiihjaa.Hp Go.Proofs.YtnjfddmajiihjaaW.PrintWords Go.Proofs.YtnjfddmajiihjaaW.PrintLast Go.Proofs.YtnjfddmajiihjaaW.PrintMore
set_option maxHeartbeats 8000000 in
set_option maxRecDepth 100000 in
theorem central_ok (s got s0 : ByteArray) (a0 : Int) (v1 : Int) (s1 : ByteArray) (a1 e1 : Int) (v2 : Int) (s2 : ByteArray) (a2 e2 : Int) (v3 : Int) (s3 : ByteArray) (a3 e3 : Int) (v4 : Int) (s4 : ByteArray) (a4 e4 : Int) (v5 : Int) (s5 : ByteArray) (a5 e5 : Int) (v6 : Int) (s6 : ByteArray) (a6 e6 : Int) (v7 : Int) (s7 : ByteArray) (a7 e7 : Int) (v8 : Int) (s8 : ByteArray) (a8 e8 : Int) (v9 : Int) (s9 : ByteArray) (a9 e9 : Int) (v10 : Int) (s10 : ByteArray) (a10 e10 : Int) (v11 : Int) (s11 : ByteArray) (a11 e11 : Int) (v12 : Int) (s12 : ByteArray) (a12 e12 : Int) (v13 : Int) (s13 : ByteArray) (a13 e13 : Int) (v14 : Int) (s14 : ByteArray) (a14 e14 : Int) (v15 : Int) (s15 : ByteArray) (a15 e15 : Int) (x16 : ByteArray) (s16 : ByteArray) (a16 e16 : Int) (x17 : ByteArray) (s17 : ByteArray) (a17 e17 : Int) (x18 : ByteArray) (s18 : ByteArray) (a18 e18 : Int) (he : (e18 != 0) = false) (w : World) (F0 : cursor_Cursor_Take.f s 0 0 4 = some (got, s0, a0, 0)) (hg : (got.toList == (⟨#[80, 75, 1, 2]⟩ : ByteArray).toList) = true) (f1 : cursor_Cursor_Two.f 40 s0 a0 0 = some (v1, s1, a1, e1)) (f2 : cursor_Cursor_Two.f 40 s1 a1 e1 = some (v2, s2, a2, e2)) (f3 : cursor_Cursor_Two.f 40 s2 a2 e2 = some (v3, s3, a3, e3)) (f4 : cursor_Cursor_Two.f 40 s3 a3 e3 = some (v4, s4, a4, e4)) (f5 : cursor_Cursor_Four.f 40 s4 a4 e4 = some (v5, s5, a5, e5)) (f6 : cursor_Cursor_Four.f 40 s5 a5 e5 = some (v6, s6, a6, e6)) (f7 : cursor_Cursor_Four.f 40 s6 a6 e6 = some (v7, s7, a7, e7)) (f8 : cursor_Cursor_Four.f 40 s7 a7 e7 = some (v8, s8, a8, e8)) (f9 : cursor_Cursor_Two.f 40 s8 a8 e8 = some (v9, s9, a9, e9)) (f10 : cursor_Cursor_Two.f 40 s9 a9 e9 = some (v10, s10, a10, e10)) (f11 : cursor_Cursor_Two.f 40 s10 a10 e10 = some (v11, s11, a11, e11)) (f12 : cursor_Cursor_Two.f 40 s11 a11 e11 = some (v12, s12, a12, e12)) (f13 : cursor_Cursor_Two.f 40 s12 a12 e12 = some (v13, s13, a13, e13)) (f14 : cursor_Cursor_Four.f 40 s13 a13 e13 = some (v14, s14, a14, e14)) (f15 : cursor_Cursor_Four.f 40 s14 a14 e14 = some (v15, s15, a15, e15)) (f16 : cursor_Cursor_Take.f s15 a15 e15 v9 = some (x16, s16, a16, e16)) (f17 : cursor_Cursor_Take.f s16 a16 e16 v10 = some (x17, s17, a17, e17)) (f18 : cursor_Cursor_Take.f s17 a17 e17 v11 = some (x18, s18, a18, e18)) (p_v9 : 0 ≤ v9) (q_v9 : v9 ≤ 65535) (p_v10 : 0 ≤ v10) (q_v10 : v10 ≤ 65535) (p_v11 : 0 ≤ v11) (q_v11 : v11 ≤ 65535) :
    Calls Try.prog 20 #[.string s] w fun e w' => e = .returned (.tuple #[.agg #[.int .u16 v1, .int .u16 v2, .int .u16 v3, .int .u16 v4, .int .u32 v5, .int .u32 v6, .int .u32 v7, .int .u32 v8, .int .u16 v12, .int .u16 v13, .int .u32 v14, .int .u32 v15, .string x16, .string x17, .string x18], .int .i64 a18, .int .i64 0]) ∧ Below w.heap.size w w' := by
  have F1 := Aside0.mk f1
  have F2 := Aside0.mk f2
  have F3 := Aside0.mk f3
  have F4 := Aside0.mk f4
  have F5 := Aside0.mk f5
  have F6 := Aside0.mk f6
  have F7 := Aside0.mk f7
  have F8 := Aside0.mk f8
  have F9 := Aside0.mk f9
  have F10 := Aside0.mk f10
  have F11 := Aside0.mk f11
  have F12 := Aside0.mk f12
  have F13 := Aside0.mk f13
  have F14 := Aside0.mk f14
  have F15 := Aside0.mk f15
  have F16 := Aside0.mk f16
  have F17 := Aside0.mk f17
  have F18 := Aside0.mk f18
  clear f1 f2 f3 f4 f5 f6 f7 f8 f9 f10 f11 f12 f13 f14 f15 f16 f17 f18
  have HZ := Aside0.mk (below_alloc (Below.refl w.heap.size w) (.cells #[.int .u16 0, .int .u16 0, .int .u16 0, .int .u16 0, .int .u32 0, .int .u32 0, .int .u32 0, .int .u32 0, .int .u16 0, .int .u16 0, .int .u32 0, .int .u32 0, .string (⟨#[]⟩ : ByteArray), .string (⟨#[]⟩ : ByteArray), .string (⟨#[]⟩ : ByteArray)] 27))
  have HQZ := Aside0.mk (heap_alloc_new w (.cells #[.int .u16 0, .int .u16 0, .int .u16 0, .int .u16 0, .int .u32 0, .int .u32 0, .int .u32 0, .int .u32 0, .int .u16 0, .int .u16 0, .int .u32 0, .int .u32 0, .string (⟨#[]⟩ : ByteArray), .string (⟨#[]⟩ : ByteArray), .string (⟨#[]⟩ : ByteArray)] 27))
  obtain ⟨gr, hgr⟩ : ∃ g, w.heap.size = g := ⟨_, rfl⟩
  have HGR := Aside0.mk hgr
  have F0 := Aside0.mk (show cursor_Cursor_Take.f s 0 0 (((⟨#[80, 75, 1, 2]⟩ : ByteArray).size : Nat) : Int) = some (got, s0, a0, 0) from F0)
  go_enter Try.func20, Try.ntmps20
  go_upto_region 4 with (go_at_call 28; (with_reducible refine (begin_ok s (⟨#[80, 75, 1, 2]⟩ : ByteArray) got s0 a0 w _ HZ.out F0.out hg).mono ?_); rintro e' w0 ⟨gc, rfl, hi, hb, hb2⟩; have HC0 := Aside0.mk hi; have HB0 := Aside0.mk hb; have HQ0 := Aside0.mk (blk_below HQZ.out hb2); clear hi hb hb2)
  rw [hgr] at HQ0
  clear HZ HQZ
  go_upto_region 5 with (first
    | (go_at_call 29; (with_reducible refine (cursor_Cursor_Two.calls 40 gc s0 a0 0 v1 s1 a1 e1 w _ HC0.out HB0.out F1.out).mono ?_); rintro e' w1 ⟨rfl, hi, hb, hk⟩; have HC1 := Aside0.mk hi; have HB1 := Aside0.mk hb; have HQ1 := Aside0.mk (kp HC0.out HQ0.out (by decide) hk); clear hi hb hk)
    | (go_at_call 29; (with_reducible refine (cursor_Cursor_Two.calls 40 gc s1 a1 e1 v2 s2 a2 e2 w _ HC1.out HB1.out F2.out).mono ?_); rintro e' w2 ⟨rfl, hi, hb, hk⟩; have HC2 := Aside0.mk hi; have HB2 := Aside0.mk hb; have HQ2 := Aside0.mk (kp HC1.out HQ1.out (by decide) hk); clear hi hb hk)
    | (go_at_call 29; (with_reducible refine (cursor_Cursor_Two.calls 40 gc s2 a2 e2 v3 s3 a3 e3 w _ HC2.out HB2.out F3.out).mono ?_); rintro e' w3 ⟨rfl, hi, hb, hk⟩; have HC3 := Aside0.mk hi; have HB3 := Aside0.mk hb; have HQ3 := Aside0.mk (kp HC2.out HQ2.out (by decide) hk); clear hi hb hk)
    | (go_at_call 29; (with_reducible refine (cursor_Cursor_Two.calls 40 gc s3 a3 e3 v4 s4 a4 e4 w _ HC3.out HB3.out F4.out).mono ?_); rintro e' w4 ⟨rfl, hi, hb, hk⟩; have HC4 := Aside0.mk hi; have HB4 := Aside0.mk hb; have HQ4 := Aside0.mk (kp HC3.out HQ3.out (by decide) hk); clear hi hb hk)
    | (go_at_call 30; (with_reducible refine (cursor_Cursor_Four.calls 40 gc s4 a4 e4 v5 s5 a5 e5 w _ HC4.out HB4.out F5.out).mono ?_); rintro e' w5 ⟨rfl, hi, hb, hk⟩; have HC5 := Aside0.mk hi; have HB5 := Aside0.mk hb; have HQ5 := Aside0.mk (kp HC4.out HQ4.out (by decide) hk); clear hi hb hk)
    | (go_at_call 30; (with_reducible refine (cursor_Cursor_Four.calls 40 gc s5 a5 e5 v6 s6 a6 e6 w _ HC5.out HB5.out F6.out).mono ?_); rintro e' w6 ⟨rfl, hi, hb, hk⟩; have HC6 := Aside0.mk hi; have HB6 := Aside0.mk hb; have HQ6 := Aside0.mk (kp HC5.out HQ5.out (by decide) hk); clear hi hb hk)
    | (go_at_call 30; (with_reducible refine (cursor_Cursor_Four.calls 40 gc s6 a6 e6 v7 s7 a7 e7 w _ HC6.out HB6.out F7.out).mono ?_); rintro e' w7 ⟨rfl, hi, hb, hk⟩; have HC7 := Aside0.mk hi; have HB7 := Aside0.mk hb; have HQ7 := Aside0.mk (kp HC6.out HQ6.out (by decide) hk); clear hi hb hk)
    | (go_at_call 30; (with_reducible refine (cursor_Cursor_Four.calls 40 gc s7 a7 e7 v8 s8 a8 e8 w _ HC7.out HB7.out F8.out).mono ?_); rintro e' w8 ⟨rfl, hi, hb, hk⟩; have HC8 := Aside0.mk hi; have HB8 := Aside0.mk hb; have HQ8 := Aside0.mk (kp HC7.out HQ7.out (by decide) hk); clear hi hb hk))
  have HBa := Aside0.mk (below_alloc HB8.out (.cells #[.int .u16 v1, .int .u16 v2, .int .u16 v3, .int .u16 v4, .int .u32 v5, .int .u32 v6, .int .u32 v7, .int .u32 v8, .int .u16 0, .int .u16 0, .int .u32 0, .int .u32 0, .string (⟨#[]⟩ : ByteArray), .string (⟨#[]⟩ : ByteArray), .string (⟨#[]⟩ : ByteArray)] 27))
  have HCa := Aside0.mk (IsS91.alloc HC8.out (.cells #[.int .u16 v1, .int .u16 v2, .int .u16 v3, .int .u16 v4, .int .u32 v5, .int .u32 v6, .int .u32 v7, .int .u32 v8, .int .u16 0, .int .u16 0, .int .u32 0, .int .u32 0, .string (⟨#[]⟩ : ByteArray), .string (⟨#[]⟩ : ByteArray), .string (⟨#[]⟩ : ByteArray)] 27))
  have HQa := Aside0.mk (blk_alloc HQ8.out (.cells #[.int .u16 v1, .int .u16 v2, .int .u16 v3, .int .u16 v4, .int .u32 v5, .int .u32 v6, .int .u32 v7, .int .u32 v8, .int .u16 0, .int .u16 0, .int .u32 0, .int .u32 0, .string (⟨#[]⟩ : ByteArray), .string (⟨#[]⟩ : ByteArray), .string (⟨#[]⟩ : ByteArray)] 27))
  have HSa := Aside0.mk (heap_alloc_new w8 (.cells #[.int .u16 v1, .int .u16 v2, .int .u16 v3, .int .u16 v4, .int .u32 v5, .int .u32 v6, .int .u32 v7, .int .u32 v8, .int .u16 0, .int .u16 0, .int .u32 0, .int .u32 0, .string (⟨#[]⟩ : ByteArray), .string (⟨#[]⟩ : ByteArray), .string (⟨#[]⟩ : ByteArray)] 27))
  have HNE := Aside0.mk (show gr ≠ w8.heap.size from Nat.ne_of_lt (blk_lt HQ8.out))
  have HGE := Aside0.mk (HB8.out.size)
  generalize w8.alloc (.cells #[.int .u16 v1, .int .u16 v2, .int .u16 v3, .int .u16 v4, .int .u32 v5, .int .u32 v6, .int .u32 v7, .int .u32 v8, .int .u16 0, .int .u16 0, .int .u32 0, .int .u32 0, .string (⟨#[]⟩ : ByteArray), .string (⟨#[]⟩ : ByteArray), .string (⟨#[]⟩ : ByteArray)] 27) = wa at HBa HCa HQa HSa ⊢
  generalize w8.heap.size = g7 at HSa HNE HGE ⊢
  have HB8 := HBa; have HC8 := HCa; have HQ8 := HQa; have HS8 := HSa
  clear HBa HCa HQa HSa HC0 HB0 HQ0
  go_upto_region 6 with (first
    | (go_at_call 29; (with_reducible refine (cursor_Cursor_Two.calls 40 gc s8 a8 e8 v9 s9 a9 e9 w _ HC8.out HB8.out F9.out).mono ?_); rintro e' w9 ⟨rfl, hi, hb, hk⟩; have HC9 := Aside0.mk hi; have HB9 := Aside0.mk hb; have HQ9 := Aside0.mk (kp HC8.out HQ8.out (by decide) hk); have HS9 := Aside0.mk (kp HC8.out HS8.out (by decide) hk); clear hi hb hk)
    | (go_at_call 29; (with_reducible refine (cursor_Cursor_Two.calls 40 gc s9 a9 e9 v10 s10 a10 e10 w _ HC9.out HB9.out F10.out).mono ?_); rintro e' w10 ⟨rfl, hi, hb, hk⟩; have HC10 := Aside0.mk hi; have HB10 := Aside0.mk hb; have HQ10 := Aside0.mk (kp HC9.out HQ9.out (by decide) hk); have HS10 := Aside0.mk (kp HC9.out HS9.out (by decide) hk); clear hi hb hk)
    | (go_at_call 29; (with_reducible refine (cursor_Cursor_Two.calls 40 gc s10 a10 e10 v11 s11 a11 e11 w _ HC10.out HB10.out F11.out).mono ?_); rintro e' w11 ⟨rfl, hi, hb, hk⟩; have HC11 := Aside0.mk hi; have HB11 := Aside0.mk hb; have HQ11 := Aside0.mk (kp HC10.out HQ10.out (by decide) hk); have HS11 := Aside0.mk (kp HC10.out HS10.out (by decide) hk); clear hi hb hk))
  go_upto_region 7 with (first
    | (go_at_call 29; (with_reducible refine (cursor_Cursor_Two.calls 40 gc s11 a11 e11 v12 s12 a12 e12 w _ HC11.out HB11.out F12.out).mono ?_); rintro e' w12 ⟨rfl, hi, hb, hk⟩; have HC12 := Aside0.mk hi; have HB12 := Aside0.mk hb; have HQ12 := Aside0.mk (kp HC11.out HQ11.out (by decide) hk); have HS12 := Aside0.mk (kp HC11.out HS11.out (by decide) hk); clear hi hb hk)
    | (go_at_call 29; (with_reducible refine (cursor_Cursor_Two.calls 40 gc s12 a12 e12 v13 s13 a13 e13 w _ HC12.out HB12.out F13.out).mono ?_); rintro e' w13 ⟨rfl, hi, hb, hk⟩; have HC13 := Aside0.mk hi; have HB13 := Aside0.mk hb; have HQ13 := Aside0.mk (kp HC12.out HQ12.out (by decide) hk); have HS13 := Aside0.mk (kp HC12.out HS12.out (by decide) hk); clear hi hb hk)
    | (go_at_call 30; (with_reducible refine (cursor_Cursor_Four.calls 40 gc s13 a13 e13 v14 s14 a14 e14 w _ HC13.out HB13.out F14.out).mono ?_); rintro e' w14 ⟨rfl, hi, hb, hk⟩; have HC14 := Aside0.mk hi; have HB14 := Aside0.mk hb; have HQ14 := Aside0.mk (kp HC13.out HQ13.out (by decide) hk); have HS14 := Aside0.mk (kp HC13.out HS13.out (by decide) hk); clear hi hb hk)
    | (go_at_call 30; (with_reducible refine (cursor_Cursor_Four.calls 40 gc s14 a14 e14 v15 s15 a15 e15 w _ HC14.out HB14.out F15.out).mono ?_); rintro e' w15 ⟨rfl, hi, hb, hk⟩; have HC15 := Aside0.mk hi; have HB15 := Aside0.mk hb; have HQ15 := Aside0.mk (kp HC14.out HQ14.out (by decide) hk); have HS15 := Aside0.mk (kp HC14.out HS14.out (by decide) hk); clear hi hb hk; have c8 := blk_cell HS15.out 8; have z8 := blk_frozen HS15.out 8; have c9 := blk_cell HS15.out 9; have z9 := blk_frozen HS15.out 9; have c10 := blk_cell HS15.out 10; have z10 := blk_frozen HS15.out 10; have c11 := blk_cell HS15.out 11; have z11 := blk_frozen HS15.out 11))
  have hgc : gc ≠ g7 := IsS91.ne_blk HC15.out HS15.out (by decide)
  have HCb := Aside0.mk (IsS91.far (IsS91.far (IsS91.far (IsS91.far HC15.out (p := ⟨g7, 8, none⟩) hgc (.int .u16 v12)) (p := ⟨g7, 9, none⟩) hgc (.int .u16 v13)) (p := ⟨g7, 10, none⟩) hgc (.int .u32 v14)) (p := ⟨g7, 11, none⟩) hgc (.int .u32 v15))
  have HBb := Aside0.mk (below_set (below_set (below_set (below_set HB15.out HGE.out (j := 8) (v := (.int .u16 v12))) HGE.out (j := 9) (v := (.int .u16 v13))) HGE.out (j := 10) (v := (.int .u32 v14))) HGE.out (j := 11) (v := (.int .u32 v15)))
  have HQb := Aside0.mk (blk_far (blk_far (blk_far (blk_far HQ15.out (p := ⟨g7, 8, none⟩) HNE.out (.int .u16 v12)) (p := ⟨g7, 9, none⟩) HNE.out (.int .u16 v13)) (p := ⟨g7, 10, none⟩) HNE.out (.int .u32 v14)) (p := ⟨g7, 11, none⟩) HNE.out (.int .u32 v15))
  have HSb := Aside0.mk (show ((((w15.setCell ⟨g7, 8, none⟩ (.int .u16 v12)).setCell ⟨g7, 9, none⟩ (.int .u16 v13)).setCell ⟨g7, 10, none⟩ (.int .u32 v14)).setCell ⟨g7, 11, none⟩ (.int .u32 v15)).heap[g7]? = some (.cells #[.int .u16 v1, .int .u16 v2, .int .u16 v3, .int .u16 v4, .int .u32 v5, .int .u32 v6, .int .u32 v7, .int .u32 v8, .int .u16 v12, .int .u16 v13, .int .u32 v14, .int .u32 v15, .string (⟨#[]⟩ : ByteArray), .string (⟨#[]⟩ : ByteArray), .string (⟨#[]⟩ : ByteArray)] 27 (0, 0)) by simpa using (blk_set (blk_set (blk_set (blk_set HS15.out 8 (.int .u16 v12)) 9 (.int .u16 v13)) 10 (.int .u32 v14)) 11 (.int .u32 v15)))
  generalize ((((w15.setCell ⟨g7, 8, none⟩ (.int .u16 v12)).setCell ⟨g7, 9, none⟩ (.int .u16 v13)).setCell ⟨g7, 10, none⟩ (.int .u32 v14)).setCell ⟨g7, 11, none⟩ (.int .u32 v15)) = wb15 at HCb HBb HQb HSb ⊢
  clear c8 z8 c9 z9 c10 z10 c11 z11 HC15 HB15 HQ15 HS15 hgc
  have HC15 := HCb; have HB15 := HBb; have HQ15 := HQb; have HS15 := HSb
  clear HCb HBb HQb HSb
  go_upto_region 8 with (first
    | (go_at_call 31; (with_reducible refine (cursor_Cursor_Take.calls gc s15 a15 e15 v9 x16 s16 a16 e16 w _ HC15.out HB15.out F16.out).mono ?_); rintro e' w16 ⟨rfl, hi, hb, hk⟩; have HC16 := Aside0.mk hi; have HB16 := Aside0.mk hb; have HQ16 := Aside0.mk (kp HC15.out HQ15.out (by decide) hk); have HS16 := Aside0.mk (kp HC15.out HS15.out (by decide) hk); clear hi hb hk)
    | (go_at_call 31; (with_reducible refine (cursor_Cursor_Take.calls gc s16 a16 e16 v10 x17 s17 a17 e17 w _ HC16.out HB16.out F17.out).mono ?_); rintro e' w17 ⟨rfl, hi, hb, hk⟩; have HC17 := Aside0.mk hi; have HB17 := Aside0.mk hb; have HQ17 := Aside0.mk (kp HC16.out HQ16.out (by decide) hk); have HS17 := Aside0.mk (kp HC16.out HS16.out (by decide) hk); clear hi hb hk)
    | (go_at_call 31; (with_reducible refine (cursor_Cursor_Take.calls gc s17 a17 e17 v11 x18 s18 a18 e18 w _ HC17.out HB17.out F18.out).mono ?_); rintro e' w18 ⟨rfl, hi, hb, hk⟩; have HC18 := Aside0.mk hi; have HB18 := Aside0.mk hb; have HQ18 := Aside0.mk (kp HC17.out HQ17.out (by decide) hk); have HS18 := Aside0.mk (kp HC17.out HS17.out (by decide) hk); clear hi hb hk; have c12 := blk_cell HS18.out 12; have z12 := blk_frozen HS18.out 12; have c13 := blk_cell HS18.out 13; have z13 := blk_frozen HS18.out 13; have c14 := blk_cell HS18.out 14; have z14 := blk_frozen HS18.out 14))
  have hgc : gc ≠ g7 := IsS91.ne_blk HC18.out HS18.out (by decide)
  have HCb := Aside0.mk (IsS91.far (IsS91.far (IsS91.far HC18.out (p := ⟨g7, 12, none⟩) hgc (.string x16)) (p := ⟨g7, 13, none⟩) hgc (.string x17)) (p := ⟨g7, 14, none⟩) hgc (.string x18))
  have HBb := Aside0.mk (below_set (below_set (below_set HB18.out HGE.out (j := 12) (v := (.string x16))) HGE.out (j := 13) (v := (.string x17))) HGE.out (j := 14) (v := (.string x18)))
  have HQb := Aside0.mk (blk_far (blk_far (blk_far HQ18.out (p := ⟨g7, 12, none⟩) HNE.out (.string x16)) (p := ⟨g7, 13, none⟩) HNE.out (.string x17)) (p := ⟨g7, 14, none⟩) HNE.out (.string x18))
  have HSb := Aside0.mk (show (((w18.setCell ⟨g7, 12, none⟩ (.string x16)).setCell ⟨g7, 13, none⟩ (.string x17)).setCell ⟨g7, 14, none⟩ (.string x18)).heap[g7]? = some (.cells #[.int .u16 v1, .int .u16 v2, .int .u16 v3, .int .u16 v4, .int .u32 v5, .int .u32 v6, .int .u32 v7, .int .u32 v8, .int .u16 v12, .int .u16 v13, .int .u32 v14, .int .u32 v15, .string x16, .string x17, .string x18] 27 (0, 0)) by simpa using (blk_set (blk_set (blk_set HS18.out 12 (.string x16)) 13 (.string x17)) 14 (.string x18)))
  generalize (((w18.setCell ⟨g7, 12, none⟩ (.string x16)).setCell ⟨g7, 13, none⟩ (.string x17)).setCell ⟨g7, 14, none⟩ (.string x18)) = wb18 at HCb HBb HQb HSb ⊢
  clear c12 z12 c13 z13 c14 z14 HC18 HB18 HQ18 HS18 hgc
  have HC18 := HCb; have HB18 := HBb; have HQ18 := HQb; have HS18 := HSb
  clear HCb HBb HQb HSb
  go_upto_region 10 with (go_at_call 32; (with_reducible refine (cursor_Cursor_Err.calls gc s18 a18 e18 e18 s18 a18 e18 w _ HC18.out HB18.out rfl).mono ?_); rintro e' wc ⟨rfl, hi, hb, hk⟩; have HCc := Aside0.mk hi; have HBc := Aside0.mk hb; have HQc := Aside0.mk (kp HC18.out HQ18.out (by decide) hk); have HSc := Aside0.mk (kp HC18.out HS18.out (by decide) hk); clear hi hb hk)
  refine start_ (n := 6) (S := fun w' => w'.cell? ⟨g7, 0, none⟩ = some (.int .u16 v1) ∧ w'.cell? ⟨g7, 1, none⟩ = some (.int .u16 v2) ∧ w'.cell? ⟨g7, 2, none⟩ = some (.int .u16 v3) ∧ w'.cell? ⟨g7, 3, none⟩ = some (.int .u16 v4) ∧ w'.cell? ⟨g7, 4, none⟩ = some (.int .u32 v5) ∧ w'.cell? ⟨g7, 5, none⟩ = some (.int .u32 v6) ∧ w'.cell? ⟨g7, 6, none⟩ = some (.int .u32 v7) ∧ w'.cell? ⟨g7, 7, none⟩ = some (.int .u32 v8) ∧ w'.cell? ⟨g7, 8, none⟩ = some (.int .u16 v12) ∧ w'.cell? ⟨g7, 9, none⟩ = some (.int .u16 v13) ∧ w'.cell? ⟨g7, 10, none⟩ = some (.int .u32 v14) ∧ w'.cell? ⟨g7, 11, none⟩ = some (.int .u32 v15) ∧ w'.cell? ⟨g7, 12, none⟩ = some (.string x16) ∧ w'.cell? ⟨g7, 13, none⟩ = some (.string x17) ∧ w'.cell? ⟨g7, 14, none⟩ = some (.string x18)) (ds := [3]) #[false, false, false, false, false, false] (by as_aux_lemma => kernel_rfl) rfl rfl ⟨(blk_cell HSc.out 0), (blk_cell HSc.out 1), (blk_cell HSc.out 2), (blk_cell HSc.out 3), (blk_cell HSc.out 4), (blk_cell HSc.out 5), (blk_cell HSc.out 6), (blk_cell HSc.out 7), (blk_cell HSc.out 8), (blk_cell HSc.out 9), (blk_cell HSc.out 10), (blk_cell HSc.out 11), (blk_cell HSc.out 12), (blk_cell HSc.out 13), (blk_cell HSc.out 14)⟩ (fun hHeld => ?_)
  refine pure_ (i := 1) (N := some 77) (v := ?_) (a' := ?_) #[false, true, false, false, false, false] rfl rfl (by as_aux_lemma => kernel_rfl) (fun _ _ _ h => h) (Or.inl ⟨by rfl, ?_⟩) ?_ ?_
  rotate_left
  · intro w'
    go_simp
    with_reducible rfl
  rotate_left
  · simp only [Act.put, List.setIfInBounds_toArray, List.set_cons_zero, List.set_cons_succ, i64_w, i32_w]
    rfl
  refine take_ (i := 0) (N := some 76) (v := ?_) (a' := ?_) #[true, true, false, false, false, false] rfl rfl (by as_aux_lemma => kernel_rfl) (fun _ _ _ h => h) (Or.inl ⟨by rfl, ?_⟩) hHeld ?_ ?_
  rotate_left
  · rintro w' ⟨s0, s1, s2, s3, s4, s5, s6, s7, s8, s9, s10, s11, s12, s13, s14⟩
    go_simp
    with_reducible rfl
  rotate_left
  · simp only [Act.put, List.setIfInBounds_toArray, List.set_cons_zero, List.set_cons_succ, i64_w, i32_w]
    rfl
  refine one_ (i := 2) (N := some 78) #[true, true, true, false, false, false] rfl rfl (by as_aux_lemma => kernel_rfl) (by decide) (fun K hK => ?_)
  refine goes_ Try.func33 (by as_aux_lemma => kernel_rfl) rfl #[.pointer (some ⟨gc, 0, none⟩)] (by rfl) rfl rfl (by simp only [List.map_toArray, List.map_cons, List.map_nil]; rfl) ?_
  with_reducible refine (cursor_Cursor_At.calls gc s18 a18 e18 a18 s18 a18 e18 w _ (IsS91.drew HCc.out) (below_drew1 HBc.out) rfl).mono ?_
  rintro e' wd ⟨rfl, hi, hb, hk⟩
  refine ⟨_, rfl, ?_⟩
  have HCd := Aside0.mk hi; have HBd := Aside0.mk hb; have HQd := Aside0.mk (kp (IsS91.drew HCc.out) (blk_drew HQc.out) (by decide) hk); have HSd := Aside0.mk (kp (IsS91.drew HCc.out) (blk_drew HSc.out) (by decide) hk); clear hi hb hk
  refine hK.out _ _ ⟨(blk_cell HSd.out 0), (blk_cell HSd.out 1), (blk_cell HSd.out 2), (blk_cell HSd.out 3), (blk_cell HSd.out 4), (blk_cell HSd.out 5), (blk_cell HSd.out 6), (blk_cell HSd.out 7), (blk_cell HSd.out 8), (blk_cell HSd.out 9), (blk_cell HSd.out 10), (blk_cell HSd.out 11), (blk_cell HSd.out 12), (blk_cell HSd.out 13), (blk_cell HSd.out 14)⟩ (fun hHeld => ?_)
  clear hK K
  refine norm_ (a' := ?_) ?_ ?_
  rotate_left
  · show Act.put _ (some 78) _ = _
    simp only [Act.put, List.setIfInBounds_toArray, List.set_cons_zero, List.set_cons_succ, i64_w, i32_w]
    rfl
  refine last_ (i := 3) (N := none) #[true, true, true, true, false, false] rfl rfl (by as_aux_lemma => kernel_rfl) (by decide) (fun K hK => ?_)
  have r0 := blk_cell HQd.out 0; have z0 := blk_frozen HQd.out 0; have r1 := blk_cell HQd.out 1; have z1 := blk_frozen HQd.out 1; have r2 := blk_cell HQd.out 2; have z2 := blk_frozen HQd.out 2; have r3 := blk_cell HQd.out 3; have z3 := blk_frozen HQd.out 3; have r4 := blk_cell HQd.out 4; have z4 := blk_frozen HQd.out 4; have r5 := blk_cell HQd.out 5; have z5 := blk_frozen HQd.out 5; have r6 := blk_cell HQd.out 6; have z6 := blk_frozen HQd.out 6; have r7 := blk_cell HQd.out 7; have z7 := blk_frozen HQd.out 7; have r8 := blk_cell HQd.out 8; have z8 := blk_frozen HQd.out 8; have r9 := blk_cell HQd.out 9; have z9 := blk_frozen HQd.out 9; have r10 := blk_cell HQd.out 10; have z10 := blk_frozen HQd.out 10; have r11 := blk_cell HQd.out 11; have z11 := blk_frozen HQd.out 11; have r12 := blk_cell HQd.out 12; have z12 := blk_frozen HQd.out 12; have r13 := blk_cell HQd.out 13; have z13 := blk_frozen HQd.out 13; have r14 := blk_cell HQd.out 14; have z14 := blk_frozen HQd.out 14
  refine skip_ (w1 := ?_) (by rfl) rfl ?_ ?_
  rotate_left
  · go_simp
    rfl
  refine hK.out _ _ ?_
  clear hK K
  refine pure_ (i := 4) (N := some 3) (v := ?_) (a' := ?_) #[true, true, true, true, true, false] rfl rfl (by as_aux_lemma => kernel_rfl) (fun _ _ _ h => h) (Or.inl ⟨by rfl, ?_⟩) ?_ ?_
  rotate_left
  · intro w'
    go_simp
    with_reducible rfl
  rotate_left
  · simp only [Act.put, List.setIfInBounds_toArray, List.set_cons_zero, List.set_cons_succ, i64_w, i32_w]
    rfl
  refine pure_ (i := 5) (N := some 4) (v := ?_) (a' := ?_) #[true, true, true, true, true, true] rfl rfl (by as_aux_lemma => kernel_rfl) (fun _ _ _ h => h) (Or.inl ⟨by rfl, ?_⟩) ?_ ?_
  rotate_left
  · intro w'
    go_simp
    with_reducible rfl
  rotate_left
  · simp only [Act.put, List.setIfInBounds_toArray, List.set_cons_zero, List.set_cons_succ, i64_w, i32_w]
    rfl
  refine done_ (by as_aux_lemma => kernel_rfl) ?_
  go_wp2
  have HQz := Aside0.mk (show (((((((((((((((wd.setCell ⟨gr, 0, none⟩ (.int .u16 v1)).setCell ⟨gr, 1, none⟩ (.int .u16 v2)).setCell ⟨gr, 2, none⟩ (.int .u16 v3)).setCell ⟨gr, 3, none⟩ (.int .u16 v4)).setCell ⟨gr, 4, none⟩ (.int .u32 v5)).setCell ⟨gr, 5, none⟩ (.int .u32 v6)).setCell ⟨gr, 6, none⟩ (.int .u32 v7)).setCell ⟨gr, 7, none⟩ (.int .u32 v8)).setCell ⟨gr, 8, none⟩ (.int .u16 v12)).setCell ⟨gr, 9, none⟩ (.int .u16 v13)).setCell ⟨gr, 10, none⟩ (.int .u32 v14)).setCell ⟨gr, 11, none⟩ (.int .u32 v15)).setCell ⟨gr, 12, none⟩ (.string x16)).setCell ⟨gr, 13, none⟩ (.string x17)).setCell ⟨gr, 14, none⟩ (.string x18)).heap[gr]? = some (.cells #[.int .u16 v1, .int .u16 v2, .int .u16 v3, .int .u16 v4, .int .u32 v5, .int .u32 v6, .int .u32 v7, .int .u32 v8, .int .u16 v12, .int .u16 v13, .int .u32 v14, .int .u32 v15, .string x16, .string x17, .string x18] 27 (0, 0)) by simpa using (blk_set (blk_set (blk_set (blk_set (blk_set (blk_set (blk_set (blk_set (blk_set (blk_set (blk_set (blk_set (blk_set (blk_set (blk_set HQd.out 0 (.int .u16 v1)) 1 (.int .u16 v2)) 2 (.int .u16 v3)) 3 (.int .u16 v4)) 4 (.int .u32 v5)) 5 (.int .u32 v6)) 6 (.int .u32 v7)) 7 (.int .u32 v8)) 8 (.int .u16 v12)) 9 (.int .u16 v13)) 10 (.int .u32 v14)) 11 (.int .u32 v15)) 12 (.string x16)) 13 (.string x17)) 14 (.string x18)))
  have HBz := Aside0.mk (below_set (below_set (below_set (below_set (below_set (below_set (below_set (below_set (below_set (below_set (below_set (below_set (below_set (below_set (below_set HBd.out (Nat.le_of_eq HGR.out) (j := 0) (v := (.int .u16 v1))) (Nat.le_of_eq HGR.out) (j := 1) (v := (.int .u16 v2))) (Nat.le_of_eq HGR.out) (j := 2) (v := (.int .u16 v3))) (Nat.le_of_eq HGR.out) (j := 3) (v := (.int .u16 v4))) (Nat.le_of_eq HGR.out) (j := 4) (v := (.int .u32 v5))) (Nat.le_of_eq HGR.out) (j := 5) (v := (.int .u32 v6))) (Nat.le_of_eq HGR.out) (j := 6) (v := (.int .u32 v7))) (Nat.le_of_eq HGR.out) (j := 7) (v := (.int .u32 v8))) (Nat.le_of_eq HGR.out) (j := 8) (v := (.int .u16 v12))) (Nat.le_of_eq HGR.out) (j := 9) (v := (.int .u16 v13))) (Nat.le_of_eq HGR.out) (j := 10) (v := (.int .u32 v14))) (Nat.le_of_eq HGR.out) (j := 11) (v := (.int .u32 v15))) (Nat.le_of_eq HGR.out) (j := 12) (v := (.string x16))) (Nat.le_of_eq HGR.out) (j := 13) (v := (.string x17))) (Nat.le_of_eq HGR.out) (j := 14) (v := (.string x18)))
  generalize (((((((((((((((wd.setCell ⟨gr, 0, none⟩ (.int .u16 v1)).setCell ⟨gr, 1, none⟩ (.int .u16 v2)).setCell ⟨gr, 2, none⟩ (.int .u16 v3)).setCell ⟨gr, 3, none⟩ (.int .u16 v4)).setCell ⟨gr, 4, none⟩ (.int .u32 v5)).setCell ⟨gr, 5, none⟩ (.int .u32 v6)).setCell ⟨gr, 6, none⟩ (.int .u32 v7)).setCell ⟨gr, 7, none⟩ (.int .u32 v8)).setCell ⟨gr, 8, none⟩ (.int .u16 v12)).setCell ⟨gr, 9, none⟩ (.int .u16 v13)).setCell ⟨gr, 10, none⟩ (.int .u32 v14)).setCell ⟨gr, 11, none⟩ (.int .u32 v15)).setCell ⟨gr, 12, none⟩ (.string x16)).setCell ⟨gr, 13, none⟩ (.string x17)).setCell ⟨gr, 14, none⟩ (.string x18)) = wz at HQz HBz ⊢
  have y0 := blk_cell HQz.out 0
  have y1 := blk_cell HQz.out 1
  have y2 := blk_cell HQz.out 2
  have y3 := blk_cell HQz.out 3
  have y4 := blk_cell HQz.out 4
  have y5 := blk_cell HQz.out 5
  have y6 := blk_cell HQz.out 6
  have y7 := blk_cell HQz.out 7
  have y8 := blk_cell HQz.out 8
  have y9 := blk_cell HQz.out 9
  have y10 := blk_cell HQz.out 10
  have y11 := blk_cell HQz.out 11
  have y12 := blk_cell HQz.out 12
  have y13 := blk_cell HQz.out 13
  have y14 := blk_cell HQz.out 14
  simp only [List.getElem?_toArray, List.getElem?_cons_zero, List.getElem?_cons_succ] at y0 y1 y2 y3 y4 y5 y6 y7 y8 y9 y10 y11 y12 y13 y14
  exact bodyPost_ret (v := .tuple #[.agg #[.int .u16 v1, .int .u16 v2, .int .u16 v3, .int .u16 v4, .int .u32 v5, .int .u32 v6, .int .u32 v7, .int .u32 v8, .int .u16 v12, .int .u16 v13, .int .u32 v14, .int .u32 v15, .string x16, .string x17, .string x18], .int .i64 a18, .int .i64 0]) (by simp [results, Try.results20, go_sem, y0, y1, y2, y3, y4, y5, y6, y7, y8, y9, y10, y11, y12, y13, y14]) rfl ⟨rfl, HBz.out⟩
set_option maxHeartbeats 8000000 in
set_option maxRecDepth 100000 in
theorem central_fail (s got s0 : ByteArray) (a0 : Int) (v1 : Int) (s1 : ByteArray) (a1 e1 : Int) (v2 : Int) (s2 : ByteArray) (a2 e2 : Int) (v3 : Int) (s3 : ByteArray) (a3 e3 : Int) (v4 : Int) (s4 : ByteArray) (a4 e4 : Int) (v5 : Int) (s5 : ByteArray) (a5 e5 : Int) (v6 : Int) (s6 : ByteArray) (a6 e6 : Int) (v7 : Int) (s7 : ByteArray) (a7 e7 : Int) (v8 : Int) (s8 : ByteArray) (a8 e8 : Int) (v9 : Int) (s9 : ByteArray) (a9 e9 : Int) (v10 : Int) (s10 : ByteArray) (a10 e10 : Int) (v11 : Int) (s11 : ByteArray) (a11 e11 : Int) (v12 : Int) (s12 : ByteArray) (a12 e12 : Int) (v13 : Int) (s13 : ByteArray) (a13 e13 : Int) (v14 : Int) (s14 : ByteArray) (a14 e14 : Int) (v15 : Int) (s15 : ByteArray) (a15 e15 : Int) (x16 : ByteArray) (s16 : ByteArray) (a16 e16 : Int) (x17 : ByteArray) (s17 : ByteArray) (a17 e17 : Int) (x18 : ByteArray) (s18 : ByteArray) (a18 e18 : Int) (he : (e18 != 0) = true) (w : World) (F0 : cursor_Cursor_Take.f s 0 0 4 = some (got, s0, a0, 0)) (hg : (got.toList == (⟨#[80, 75, 1, 2]⟩ : ByteArray).toList) = true) (f1 : cursor_Cursor_Two.f 40 s0 a0 0 = some (v1, s1, a1, e1)) (f2 : cursor_Cursor_Two.f 40 s1 a1 e1 = some (v2, s2, a2, e2)) (f3 : cursor_Cursor_Two.f 40 s2 a2 e2 = some (v3, s3, a3, e3)) (f4 : cursor_Cursor_Two.f 40 s3 a3 e3 = some (v4, s4, a4, e4)) (f5 : cursor_Cursor_Four.f 40 s4 a4 e4 = some (v5, s5, a5, e5)) (f6 : cursor_Cursor_Four.f 40 s5 a5 e5 = some (v6, s6, a6, e6)) (f7 : cursor_Cursor_Four.f 40 s6 a6 e6 = some (v7, s7, a7, e7)) (f8 : cursor_Cursor_Four.f 40 s7 a7 e7 = some (v8, s8, a8, e8)) (f9 : cursor_Cursor_Two.f 40 s8 a8 e8 = some (v9, s9, a9, e9)) (f10 : cursor_Cursor_Two.f 40 s9 a9 e9 = some (v10, s10, a10, e10)) (f11 : cursor_Cursor_Two.f 40 s10 a10 e10 = some (v11, s11, a11, e11)) (f12 : cursor_Cursor_Two.f 40 s11 a11 e11 = some (v12, s12, a12, e12)) (f13 : cursor_Cursor_Two.f 40 s12 a12 e12 = some (v13, s13, a13, e13)) (f14 : cursor_Cursor_Four.f 40 s13 a13 e13 = some (v14, s14, a14, e14)) (f15 : cursor_Cursor_Four.f 40 s14 a14 e14 = some (v15, s15, a15, e15)) (f16 : cursor_Cursor_Take.f s15 a15 e15 v9 = some (x16, s16, a16, e16)) (f17 : cursor_Cursor_Take.f s16 a16 e16 v10 = some (x17, s17, a17, e17)) (f18 : cursor_Cursor_Take.f s17 a17 e17 v11 = some (x18, s18, a18, e18)) (p_v9 : 0 ≤ v9) (q_v9 : v9 ≤ 65535) (p_v10 : 0 ≤ v10) (q_v10 : v10 ≤ 65535) (p_v11 : 0 ≤ v11) (q_v11 : v11 ≤ 65535) :
    Calls Try.prog 20 #[.string s] w fun e w' => e = .returned (.tuple #[.agg #[.int .u16 0, .int .u16 0, .int .u16 0, .int .u16 0, .int .u32 0, .int .u32 0, .int .u32 0, .int .u32 0, .int .u16 0, .int .u16 0, .int .u32 0, .int .u32 0, .string (⟨#[]⟩ : ByteArray), .string (⟨#[]⟩ : ByteArray), .string (⟨#[]⟩ : ByteArray)], .int .i64 0, .int .i64 e18]) ∧ Below w.heap.size w w' := by
  have F1 := Aside0.mk f1
  have F2 := Aside0.mk f2
  have F3 := Aside0.mk f3
  have F4 := Aside0.mk f4
  have F5 := Aside0.mk f5
  have F6 := Aside0.mk f6
  have F7 := Aside0.mk f7
  have F8 := Aside0.mk f8
  have F9 := Aside0.mk f9
  have F10 := Aside0.mk f10
  have F11 := Aside0.mk f11
  have F12 := Aside0.mk f12
  have F13 := Aside0.mk f13
  have F14 := Aside0.mk f14
  have F15 := Aside0.mk f15
  have F16 := Aside0.mk f16
  have F17 := Aside0.mk f17
  have F18 := Aside0.mk f18
  clear f1 f2 f3 f4 f5 f6 f7 f8 f9 f10 f11 f12 f13 f14 f15 f16 f17 f18
  have HZ := Aside0.mk (below_alloc (Below.refl w.heap.size w) (.cells #[.int .u16 0, .int .u16 0, .int .u16 0, .int .u16 0, .int .u32 0, .int .u32 0, .int .u32 0, .int .u32 0, .int .u16 0, .int .u16 0, .int .u32 0, .int .u32 0, .string (⟨#[]⟩ : ByteArray), .string (⟨#[]⟩ : ByteArray), .string (⟨#[]⟩ : ByteArray)] 27))
  have HQZ := Aside0.mk (heap_alloc_new w (.cells #[.int .u16 0, .int .u16 0, .int .u16 0, .int .u16 0, .int .u32 0, .int .u32 0, .int .u32 0, .int .u32 0, .int .u16 0, .int .u16 0, .int .u32 0, .int .u32 0, .string (⟨#[]⟩ : ByteArray), .string (⟨#[]⟩ : ByteArray), .string (⟨#[]⟩ : ByteArray)] 27))
  obtain ⟨gr, hgr⟩ : ∃ g, w.heap.size = g := ⟨_, rfl⟩
  have HGR := Aside0.mk hgr
  have F0 := Aside0.mk (show cursor_Cursor_Take.f s 0 0 (((⟨#[80, 75, 1, 2]⟩ : ByteArray).size : Nat) : Int) = some (got, s0, a0, 0) from F0)
  go_enter Try.func20, Try.ntmps20
  go_upto_region 4 with (go_at_call 28; (with_reducible refine (begin_ok s (⟨#[80, 75, 1, 2]⟩ : ByteArray) got s0 a0 w _ HZ.out F0.out hg).mono ?_); rintro e' w0 ⟨gc, rfl, hi, hb, hb2⟩; have HC0 := Aside0.mk hi; have HB0 := Aside0.mk hb; have HQ0 := Aside0.mk (blk_below HQZ.out hb2); clear hi hb hb2)
  rw [hgr] at HQ0
  clear HZ HQZ
  go_upto_region 5 with (first
    | (go_at_call 29; (with_reducible refine (cursor_Cursor_Two.calls 40 gc s0 a0 0 v1 s1 a1 e1 w _ HC0.out HB0.out F1.out).mono ?_); rintro e' w1 ⟨rfl, hi, hb, hk⟩; have HC1 := Aside0.mk hi; have HB1 := Aside0.mk hb; have HQ1 := Aside0.mk (kp HC0.out HQ0.out (by decide) hk); clear hi hb hk)
    | (go_at_call 29; (with_reducible refine (cursor_Cursor_Two.calls 40 gc s1 a1 e1 v2 s2 a2 e2 w _ HC1.out HB1.out F2.out).mono ?_); rintro e' w2 ⟨rfl, hi, hb, hk⟩; have HC2 := Aside0.mk hi; have HB2 := Aside0.mk hb; have HQ2 := Aside0.mk (kp HC1.out HQ1.out (by decide) hk); clear hi hb hk)
    | (go_at_call 29; (with_reducible refine (cursor_Cursor_Two.calls 40 gc s2 a2 e2 v3 s3 a3 e3 w _ HC2.out HB2.out F3.out).mono ?_); rintro e' w3 ⟨rfl, hi, hb, hk⟩; have HC3 := Aside0.mk hi; have HB3 := Aside0.mk hb; have HQ3 := Aside0.mk (kp HC2.out HQ2.out (by decide) hk); clear hi hb hk)
    | (go_at_call 29; (with_reducible refine (cursor_Cursor_Two.calls 40 gc s3 a3 e3 v4 s4 a4 e4 w _ HC3.out HB3.out F4.out).mono ?_); rintro e' w4 ⟨rfl, hi, hb, hk⟩; have HC4 := Aside0.mk hi; have HB4 := Aside0.mk hb; have HQ4 := Aside0.mk (kp HC3.out HQ3.out (by decide) hk); clear hi hb hk)
    | (go_at_call 30; (with_reducible refine (cursor_Cursor_Four.calls 40 gc s4 a4 e4 v5 s5 a5 e5 w _ HC4.out HB4.out F5.out).mono ?_); rintro e' w5 ⟨rfl, hi, hb, hk⟩; have HC5 := Aside0.mk hi; have HB5 := Aside0.mk hb; have HQ5 := Aside0.mk (kp HC4.out HQ4.out (by decide) hk); clear hi hb hk)
    | (go_at_call 30; (with_reducible refine (cursor_Cursor_Four.calls 40 gc s5 a5 e5 v6 s6 a6 e6 w _ HC5.out HB5.out F6.out).mono ?_); rintro e' w6 ⟨rfl, hi, hb, hk⟩; have HC6 := Aside0.mk hi; have HB6 := Aside0.mk hb; have HQ6 := Aside0.mk (kp HC5.out HQ5.out (by decide) hk); clear hi hb hk)
    | (go_at_call 30; (with_reducible refine (cursor_Cursor_Four.calls 40 gc s6 a6 e6 v7 s7 a7 e7 w _ HC6.out HB6.out F7.out).mono ?_); rintro e' w7 ⟨rfl, hi, hb, hk⟩; have HC7 := Aside0.mk hi; have HB7 := Aside0.mk hb; have HQ7 := Aside0.mk (kp HC6.out HQ6.out (by decide) hk); clear hi hb hk)
    | (go_at_call 30; (with_reducible refine (cursor_Cursor_Four.calls 40 gc s7 a7 e7 v8 s8 a8 e8 w _ HC7.out HB7.out F8.out).mono ?_); rintro e' w8 ⟨rfl, hi, hb, hk⟩; have HC8 := Aside0.mk hi; have HB8 := Aside0.mk hb; have HQ8 := Aside0.mk (kp HC7.out HQ7.out (by decide) hk); clear hi hb hk))
  have HBa := Aside0.mk (below_alloc HB8.out (.cells #[.int .u16 v1, .int .u16 v2, .int .u16 v3, .int .u16 v4, .int .u32 v5, .int .u32 v6, .int .u32 v7, .int .u32 v8, .int .u16 0, .int .u16 0, .int .u32 0, .int .u32 0, .string (⟨#[]⟩ : ByteArray), .string (⟨#[]⟩ : ByteArray), .string (⟨#[]⟩ : ByteArray)] 27))
  have HCa := Aside0.mk (IsS91.alloc HC8.out (.cells #[.int .u16 v1, .int .u16 v2, .int .u16 v3, .int .u16 v4, .int .u32 v5, .int .u32 v6, .int .u32 v7, .int .u32 v8, .int .u16 0, .int .u16 0, .int .u32 0, .int .u32 0, .string (⟨#[]⟩ : ByteArray), .string (⟨#[]⟩ : ByteArray), .string (⟨#[]⟩ : ByteArray)] 27))
  have HQa := Aside0.mk (blk_alloc HQ8.out (.cells #[.int .u16 v1, .int .u16 v2, .int .u16 v3, .int .u16 v4, .int .u32 v5, .int .u32 v6, .int .u32 v7, .int .u32 v8, .int .u16 0, .int .u16 0, .int .u32 0, .int .u32 0, .string (⟨#[]⟩ : ByteArray), .string (⟨#[]⟩ : ByteArray), .string (⟨#[]⟩ : ByteArray)] 27))
  have HSa := Aside0.mk (heap_alloc_new w8 (.cells #[.int .u16 v1, .int .u16 v2, .int .u16 v3, .int .u16 v4, .int .u32 v5, .int .u32 v6, .int .u32 v7, .int .u32 v8, .int .u16 0, .int .u16 0, .int .u32 0, .int .u32 0, .string (⟨#[]⟩ : ByteArray), .string (⟨#[]⟩ : ByteArray), .string (⟨#[]⟩ : ByteArray)] 27))
  have HNE := Aside0.mk (show gr ≠ w8.heap.size from Nat.ne_of_lt (blk_lt HQ8.out))
  have HGE := Aside0.mk (HB8.out.size)
  generalize w8.alloc (.cells #[.int .u16 v1, .int .u16 v2, .int .u16 v3, .int .u16 v4, .int .u32 v5, .int .u32 v6, .int .u32 v7, .int .u32 v8, .int .u16 0, .int .u16 0, .int .u32 0, .int .u32 0, .string (⟨#[]⟩ : ByteArray), .string (⟨#[]⟩ : ByteArray), .string (⟨#[]⟩ : ByteArray)] 27) = wa at HBa HCa HQa HSa ⊢
  generalize w8.heap.size = g7 at HSa HNE HGE ⊢
  have HB8 := HBa; have HC8 := HCa; have HQ8 := HQa; have HS8 := HSa
  clear HBa HCa HQa HSa HC0 HB0 HQ0
  go_upto_region 6 with (first
    | (go_at_call 29; (with_reducible refine (cursor_Cursor_Two.calls 40 gc s8 a8 e8 v9 s9 a9 e9 w _ HC8.out HB8.out F9.out).mono ?_); rintro e' w9 ⟨rfl, hi, hb, hk⟩; have HC9 := Aside0.mk hi; have HB9 := Aside0.mk hb; have HQ9 := Aside0.mk (kp HC8.out HQ8.out (by decide) hk); have HS9 := Aside0.mk (kp HC8.out HS8.out (by decide) hk); clear hi hb hk)
    | (go_at_call 29; (with_reducible refine (cursor_Cursor_Two.calls 40 gc s9 a9 e9 v10 s10 a10 e10 w _ HC9.out HB9.out F10.out).mono ?_); rintro e' w10 ⟨rfl, hi, hb, hk⟩; have HC10 := Aside0.mk hi; have HB10 := Aside0.mk hb; have HQ10 := Aside0.mk (kp HC9.out HQ9.out (by decide) hk); have HS10 := Aside0.mk (kp HC9.out HS9.out (by decide) hk); clear hi hb hk)
    | (go_at_call 29; (with_reducible refine (cursor_Cursor_Two.calls 40 gc s10 a10 e10 v11 s11 a11 e11 w _ HC10.out HB10.out F11.out).mono ?_); rintro e' w11 ⟨rfl, hi, hb, hk⟩; have HC11 := Aside0.mk hi; have HB11 := Aside0.mk hb; have HQ11 := Aside0.mk (kp HC10.out HQ10.out (by decide) hk); have HS11 := Aside0.mk (kp HC10.out HS10.out (by decide) hk); clear hi hb hk))
  go_upto_region 7 with (first
    | (go_at_call 29; (with_reducible refine (cursor_Cursor_Two.calls 40 gc s11 a11 e11 v12 s12 a12 e12 w _ HC11.out HB11.out F12.out).mono ?_); rintro e' w12 ⟨rfl, hi, hb, hk⟩; have HC12 := Aside0.mk hi; have HB12 := Aside0.mk hb; have HQ12 := Aside0.mk (kp HC11.out HQ11.out (by decide) hk); have HS12 := Aside0.mk (kp HC11.out HS11.out (by decide) hk); clear hi hb hk)
    | (go_at_call 29; (with_reducible refine (cursor_Cursor_Two.calls 40 gc s12 a12 e12 v13 s13 a13 e13 w _ HC12.out HB12.out F13.out).mono ?_); rintro e' w13 ⟨rfl, hi, hb, hk⟩; have HC13 := Aside0.mk hi; have HB13 := Aside0.mk hb; have HQ13 := Aside0.mk (kp HC12.out HQ12.out (by decide) hk); have HS13 := Aside0.mk (kp HC12.out HS12.out (by decide) hk); clear hi hb hk)
    | (go_at_call 30; (with_reducible refine (cursor_Cursor_Four.calls 40 gc s13 a13 e13 v14 s14 a14 e14 w _ HC13.out HB13.out F14.out).mono ?_); rintro e' w14 ⟨rfl, hi, hb, hk⟩; have HC14 := Aside0.mk hi; have HB14 := Aside0.mk hb; have HQ14 := Aside0.mk (kp HC13.out HQ13.out (by decide) hk); have HS14 := Aside0.mk (kp HC13.out HS13.out (by decide) hk); clear hi hb hk)
    | (go_at_call 30; (with_reducible refine (cursor_Cursor_Four.calls 40 gc s14 a14 e14 v15 s15 a15 e15 w _ HC14.out HB14.out F15.out).mono ?_); rintro e' w15 ⟨rfl, hi, hb, hk⟩; have HC15 := Aside0.mk hi; have HB15 := Aside0.mk hb; have HQ15 := Aside0.mk (kp HC14.out HQ14.out (by decide) hk); have HS15 := Aside0.mk (kp HC14.out HS14.out (by decide) hk); clear hi hb hk; have c8 := blk_cell HS15.out 8; have z8 := blk_frozen HS15.out 8; have c9 := blk_cell HS15.out 9; have z9 := blk_frozen HS15.out 9; have c10 := blk_cell HS15.out 10; have z10 := blk_frozen HS15.out 10; have c11 := blk_cell HS15.out 11; have z11 := blk_frozen HS15.out 11))
  have hgc : gc ≠ g7 := IsS91.ne_blk HC15.out HS15.out (by decide)
  have HCb := Aside0.mk (IsS91.far (IsS91.far (IsS91.far (IsS91.far HC15.out (p := ⟨g7, 8, none⟩) hgc (.int .u16 v12)) (p := ⟨g7, 9, none⟩) hgc (.int .u16 v13)) (p := ⟨g7, 10, none⟩) hgc (.int .u32 v14)) (p := ⟨g7, 11, none⟩) hgc (.int .u32 v15))
  have HBb := Aside0.mk (below_set (below_set (below_set (below_set HB15.out HGE.out (j := 8) (v := (.int .u16 v12))) HGE.out (j := 9) (v := (.int .u16 v13))) HGE.out (j := 10) (v := (.int .u32 v14))) HGE.out (j := 11) (v := (.int .u32 v15)))
  have HQb := Aside0.mk (blk_far (blk_far (blk_far (blk_far HQ15.out (p := ⟨g7, 8, none⟩) HNE.out (.int .u16 v12)) (p := ⟨g7, 9, none⟩) HNE.out (.int .u16 v13)) (p := ⟨g7, 10, none⟩) HNE.out (.int .u32 v14)) (p := ⟨g7, 11, none⟩) HNE.out (.int .u32 v15))
  have HSb := Aside0.mk (show ((((w15.setCell ⟨g7, 8, none⟩ (.int .u16 v12)).setCell ⟨g7, 9, none⟩ (.int .u16 v13)).setCell ⟨g7, 10, none⟩ (.int .u32 v14)).setCell ⟨g7, 11, none⟩ (.int .u32 v15)).heap[g7]? = some (.cells #[.int .u16 v1, .int .u16 v2, .int .u16 v3, .int .u16 v4, .int .u32 v5, .int .u32 v6, .int .u32 v7, .int .u32 v8, .int .u16 v12, .int .u16 v13, .int .u32 v14, .int .u32 v15, .string (⟨#[]⟩ : ByteArray), .string (⟨#[]⟩ : ByteArray), .string (⟨#[]⟩ : ByteArray)] 27 (0, 0)) by simpa using (blk_set (blk_set (blk_set (blk_set HS15.out 8 (.int .u16 v12)) 9 (.int .u16 v13)) 10 (.int .u32 v14)) 11 (.int .u32 v15)))
  generalize ((((w15.setCell ⟨g7, 8, none⟩ (.int .u16 v12)).setCell ⟨g7, 9, none⟩ (.int .u16 v13)).setCell ⟨g7, 10, none⟩ (.int .u32 v14)).setCell ⟨g7, 11, none⟩ (.int .u32 v15)) = wb15 at HCb HBb HQb HSb ⊢
  clear c8 z8 c9 z9 c10 z10 c11 z11 HC15 HB15 HQ15 HS15 hgc
  have HC15 := HCb; have HB15 := HBb; have HQ15 := HQb; have HS15 := HSb
  clear HCb HBb HQb HSb
  go_upto_region 8 with (first
    | (go_at_call 31; (with_reducible refine (cursor_Cursor_Take.calls gc s15 a15 e15 v9 x16 s16 a16 e16 w _ HC15.out HB15.out F16.out).mono ?_); rintro e' w16 ⟨rfl, hi, hb, hk⟩; have HC16 := Aside0.mk hi; have HB16 := Aside0.mk hb; have HQ16 := Aside0.mk (kp HC15.out HQ15.out (by decide) hk); have HS16 := Aside0.mk (kp HC15.out HS15.out (by decide) hk); clear hi hb hk)
    | (go_at_call 31; (with_reducible refine (cursor_Cursor_Take.calls gc s16 a16 e16 v10 x17 s17 a17 e17 w _ HC16.out HB16.out F17.out).mono ?_); rintro e' w17 ⟨rfl, hi, hb, hk⟩; have HC17 := Aside0.mk hi; have HB17 := Aside0.mk hb; have HQ17 := Aside0.mk (kp HC16.out HQ16.out (by decide) hk); have HS17 := Aside0.mk (kp HC16.out HS16.out (by decide) hk); clear hi hb hk)
    | (go_at_call 31; (with_reducible refine (cursor_Cursor_Take.calls gc s17 a17 e17 v11 x18 s18 a18 e18 w _ HC17.out HB17.out F18.out).mono ?_); rintro e' w18 ⟨rfl, hi, hb, hk⟩; have HC18 := Aside0.mk hi; have HB18 := Aside0.mk hb; have HQ18 := Aside0.mk (kp HC17.out HQ17.out (by decide) hk); have HS18 := Aside0.mk (kp HC17.out HS17.out (by decide) hk); clear hi hb hk; have c12 := blk_cell HS18.out 12; have z12 := blk_frozen HS18.out 12; have c13 := blk_cell HS18.out 13; have z13 := blk_frozen HS18.out 13; have c14 := blk_cell HS18.out 14; have z14 := blk_frozen HS18.out 14))
  have hgc : gc ≠ g7 := IsS91.ne_blk HC18.out HS18.out (by decide)
  have HCb := Aside0.mk (IsS91.far (IsS91.far (IsS91.far HC18.out (p := ⟨g7, 12, none⟩) hgc (.string x16)) (p := ⟨g7, 13, none⟩) hgc (.string x17)) (p := ⟨g7, 14, none⟩) hgc (.string x18))
  have HBb := Aside0.mk (below_set (below_set (below_set HB18.out HGE.out (j := 12) (v := (.string x16))) HGE.out (j := 13) (v := (.string x17))) HGE.out (j := 14) (v := (.string x18)))
  have HQb := Aside0.mk (blk_far (blk_far (blk_far HQ18.out (p := ⟨g7, 12, none⟩) HNE.out (.string x16)) (p := ⟨g7, 13, none⟩) HNE.out (.string x17)) (p := ⟨g7, 14, none⟩) HNE.out (.string x18))
  have HSb := Aside0.mk (show (((w18.setCell ⟨g7, 12, none⟩ (.string x16)).setCell ⟨g7, 13, none⟩ (.string x17)).setCell ⟨g7, 14, none⟩ (.string x18)).heap[g7]? = some (.cells #[.int .u16 v1, .int .u16 v2, .int .u16 v3, .int .u16 v4, .int .u32 v5, .int .u32 v6, .int .u32 v7, .int .u32 v8, .int .u16 v12, .int .u16 v13, .int .u32 v14, .int .u32 v15, .string x16, .string x17, .string x18] 27 (0, 0)) by simpa using (blk_set (blk_set (blk_set HS18.out 12 (.string x16)) 13 (.string x17)) 14 (.string x18)))
  generalize (((w18.setCell ⟨g7, 12, none⟩ (.string x16)).setCell ⟨g7, 13, none⟩ (.string x17)).setCell ⟨g7, 14, none⟩ (.string x18)) = wb18 at HCb HBb HQb HSb ⊢
  clear c12 z12 c13 z13 c14 z14 HC18 HB18 HQ18 HS18 hgc
  have HC18 := HCb; have HB18 := HBb; have HQ18 := HQb; have HS18 := HSb
  clear HCb HBb HQb HSb
  go_wp2_with (first
    | (go_at_call 32; (with_reducible refine (cursor_Cursor_Err.calls gc s18 a18 e18 e18 s18 a18 e18 w _ HC18.out HB18.out rfl).mono ?_); rintro e' wc ⟨rfl, hi, hb, hk⟩; have HCc := Aside0.mk hi; have HBc := Aside0.mk hb; have HQc := Aside0.mk (kp HC18.out HQ18.out (by decide) hk); have HSc := Aside0.mk (kp HC18.out HS18.out (by decide) hk); clear hi hb hk)
    | (go_at_call 32; (with_reducible refine (cursor_Cursor_Err.calls gc s18 a18 e18 e18 s18 a18 e18 w _ HCc.out HBc.out rfl).mono ?_); rintro e' wd ⟨rfl, hi, hb, hk⟩; have HCd := Aside0.mk hi; have HBd := Aside0.mk hb; have HQd := Aside0.mk (kp HCc.out HQc.out (by decide) hk); have HSd := Aside0.mk (kp HCc.out HSc.out (by decide) hk); clear hi hb hk; have r0 := blk_cell HQd.out 0; have z0 := blk_frozen HQd.out 0; have r1 := blk_cell HQd.out 1; have z1 := blk_frozen HQd.out 1; have r2 := blk_cell HQd.out 2; have z2 := blk_frozen HQd.out 2; have r3 := blk_cell HQd.out 3; have z3 := blk_frozen HQd.out 3; have r4 := blk_cell HQd.out 4; have z4 := blk_frozen HQd.out 4; have r5 := blk_cell HQd.out 5; have z5 := blk_frozen HQd.out 5; have r6 := blk_cell HQd.out 6; have z6 := blk_frozen HQd.out 6; have r7 := blk_cell HQd.out 7; have z7 := blk_frozen HQd.out 7; have r8 := blk_cell HQd.out 8; have z8 := blk_frozen HQd.out 8; have r9 := blk_cell HQd.out 9; have z9 := blk_frozen HQd.out 9; have r10 := blk_cell HQd.out 10; have z10 := blk_frozen HQd.out 10; have r11 := blk_cell HQd.out 11; have z11 := blk_frozen HQd.out 11; have r12 := blk_cell HQd.out 12; have z12 := blk_frozen HQd.out 12; have r13 := blk_cell HQd.out 13; have z13 := blk_frozen HQd.out 13; have r14 := blk_cell HQd.out 14; have z14 := blk_frozen HQd.out 14))
  have HQz := Aside0.mk (show (((((((((((((((wd.setCell ⟨gr, 0, none⟩ (.int .u16 0)).setCell ⟨gr, 1, none⟩ (.int .u16 0)).setCell ⟨gr, 2, none⟩ (.int .u16 0)).setCell ⟨gr, 3, none⟩ (.int .u16 0)).setCell ⟨gr, 4, none⟩ (.int .u32 0)).setCell ⟨gr, 5, none⟩ (.int .u32 0)).setCell ⟨gr, 6, none⟩ (.int .u32 0)).setCell ⟨gr, 7, none⟩ (.int .u32 0)).setCell ⟨gr, 8, none⟩ (.int .u16 0)).setCell ⟨gr, 9, none⟩ (.int .u16 0)).setCell ⟨gr, 10, none⟩ (.int .u32 0)).setCell ⟨gr, 11, none⟩ (.int .u32 0)).setCell ⟨gr, 12, none⟩ (.string (⟨#[]⟩ : ByteArray))).setCell ⟨gr, 13, none⟩ (.string (⟨#[]⟩ : ByteArray))).setCell ⟨gr, 14, none⟩ (.string (⟨#[]⟩ : ByteArray))).heap[gr]? = some (.cells #[.int .u16 0, .int .u16 0, .int .u16 0, .int .u16 0, .int .u32 0, .int .u32 0, .int .u32 0, .int .u32 0, .int .u16 0, .int .u16 0, .int .u32 0, .int .u32 0, .string (⟨#[]⟩ : ByteArray), .string (⟨#[]⟩ : ByteArray), .string (⟨#[]⟩ : ByteArray)] 27 (0, 0)) by simpa using (blk_set (blk_set (blk_set (blk_set (blk_set (blk_set (blk_set (blk_set (blk_set (blk_set (blk_set (blk_set (blk_set (blk_set (blk_set HQd.out 0 (.int .u16 0)) 1 (.int .u16 0)) 2 (.int .u16 0)) 3 (.int .u16 0)) 4 (.int .u32 0)) 5 (.int .u32 0)) 6 (.int .u32 0)) 7 (.int .u32 0)) 8 (.int .u16 0)) 9 (.int .u16 0)) 10 (.int .u32 0)) 11 (.int .u32 0)) 12 (.string (⟨#[]⟩ : ByteArray))) 13 (.string (⟨#[]⟩ : ByteArray))) 14 (.string (⟨#[]⟩ : ByteArray))))
  have HBz := Aside0.mk (below_set (below_set (below_set (below_set (below_set (below_set (below_set (below_set (below_set (below_set (below_set (below_set (below_set (below_set (below_set HBd.out (Nat.le_of_eq HGR.out) (j := 0) (v := (.int .u16 0))) (Nat.le_of_eq HGR.out) (j := 1) (v := (.int .u16 0))) (Nat.le_of_eq HGR.out) (j := 2) (v := (.int .u16 0))) (Nat.le_of_eq HGR.out) (j := 3) (v := (.int .u16 0))) (Nat.le_of_eq HGR.out) (j := 4) (v := (.int .u32 0))) (Nat.le_of_eq HGR.out) (j := 5) (v := (.int .u32 0))) (Nat.le_of_eq HGR.out) (j := 6) (v := (.int .u32 0))) (Nat.le_of_eq HGR.out) (j := 7) (v := (.int .u32 0))) (Nat.le_of_eq HGR.out) (j := 8) (v := (.int .u16 0))) (Nat.le_of_eq HGR.out) (j := 9) (v := (.int .u16 0))) (Nat.le_of_eq HGR.out) (j := 10) (v := (.int .u32 0))) (Nat.le_of_eq HGR.out) (j := 11) (v := (.int .u32 0))) (Nat.le_of_eq HGR.out) (j := 12) (v := (.string (⟨#[]⟩ : ByteArray)))) (Nat.le_of_eq HGR.out) (j := 13) (v := (.string (⟨#[]⟩ : ByteArray)))) (Nat.le_of_eq HGR.out) (j := 14) (v := (.string (⟨#[]⟩ : ByteArray))))
  generalize (((((((((((((((wd.setCell ⟨gr, 0, none⟩ (.int .u16 0)).setCell ⟨gr, 1, none⟩ (.int .u16 0)).setCell ⟨gr, 2, none⟩ (.int .u16 0)).setCell ⟨gr, 3, none⟩ (.int .u16 0)).setCell ⟨gr, 4, none⟩ (.int .u32 0)).setCell ⟨gr, 5, none⟩ (.int .u32 0)).setCell ⟨gr, 6, none⟩ (.int .u32 0)).setCell ⟨gr, 7, none⟩ (.int .u32 0)).setCell ⟨gr, 8, none⟩ (.int .u16 0)).setCell ⟨gr, 9, none⟩ (.int .u16 0)).setCell ⟨gr, 10, none⟩ (.int .u32 0)).setCell ⟨gr, 11, none⟩ (.int .u32 0)).setCell ⟨gr, 12, none⟩ (.string (⟨#[]⟩ : ByteArray))).setCell ⟨gr, 13, none⟩ (.string (⟨#[]⟩ : ByteArray))).setCell ⟨gr, 14, none⟩ (.string (⟨#[]⟩ : ByteArray))) = wz at HQz HBz ⊢
  have y0 := blk_cell HQz.out 0
  have y1 := blk_cell HQz.out 1
  have y2 := blk_cell HQz.out 2
  have y3 := blk_cell HQz.out 3
  have y4 := blk_cell HQz.out 4
  have y5 := blk_cell HQz.out 5
  have y6 := blk_cell HQz.out 6
  have y7 := blk_cell HQz.out 7
  have y8 := blk_cell HQz.out 8
  have y9 := blk_cell HQz.out 9
  have y10 := blk_cell HQz.out 10
  have y11 := blk_cell HQz.out 11
  have y12 := blk_cell HQz.out 12
  have y13 := blk_cell HQz.out 13
  have y14 := blk_cell HQz.out 14
  simp only [List.getElem?_toArray, List.getElem?_cons_zero, List.getElem?_cons_succ] at y0 y1 y2 y3 y4 y5 y6 y7 y8 y9 y10 y11 y12 y13 y14
  exact bodyPost_ret (v := .tuple #[.agg #[.int .u16 0, .int .u16 0, .int .u16 0, .int .u16 0, .int .u32 0, .int .u32 0, .int .u32 0, .int .u32 0, .int .u16 0, .int .u16 0, .int .u32 0, .int .u32 0, .string (⟨#[]⟩ : ByteArray), .string (⟨#[]⟩ : ByteArray), .string (⟨#[]⟩ : ByteArray)], .int .i64 0, .int .i64 e18]) (by simp [results, Try.results20, go_sem, y0, y1, y2, y3, y4, y5, y6, y7, y8, y9, y10, y11, y12, y13, y14]) rfl ⟨rfl, HBz.out⟩
set_option maxHeartbeats 8000000 in
set_option maxRecDepth 100000 in
theorem central_bad (s got s0 : ByteArray) (a0 e0 : Int) (w : World) (F0 : cursor_Cursor_Take.f s 0 0 4 = some (got, s0, a0, e0)) (he : e0 ≠ 0) :
    Calls Try.prog 20 #[.string s] w fun e w' => e = .returned (.tuple #[.agg #[.int .u16 0, .int .u16 0, .int .u16 0, .int .u16 0, .int .u32 0, .int .u32 0, .int .u32 0, .int .u32 0, .int .u16 0, .int .u16 0, .int .u32 0, .int .u32 0, .string (⟨#[]⟩ : ByteArray), .string (⟨#[]⟩ : ByteArray), .string (⟨#[]⟩ : ByteArray)], .int .i64 0, .int .i64 3]) ∧ Below w.heap.size w w' := by
  have HZ := Aside0.mk (below_alloc (Below.refl w.heap.size w) (.cells #[.int .u16 0, .int .u16 0, .int .u16 0, .int .u16 0, .int .u32 0, .int .u32 0, .int .u32 0, .int .u32 0, .int .u16 0, .int .u16 0, .int .u32 0, .int .u32 0, .string (⟨#[]⟩ : ByteArray), .string (⟨#[]⟩ : ByteArray), .string (⟨#[]⟩ : ByteArray)] 27))
  have HQZ := Aside0.mk (heap_alloc_new w (.cells #[.int .u16 0, .int .u16 0, .int .u16 0, .int .u16 0, .int .u32 0, .int .u32 0, .int .u32 0, .int .u32 0, .int .u16 0, .int .u16 0, .int .u32 0, .int .u32 0, .string (⟨#[]⟩ : ByteArray), .string (⟨#[]⟩ : ByteArray), .string (⟨#[]⟩ : ByteArray)] 27))
  obtain ⟨gr, hgr⟩ : ∃ g, w.heap.size = g := ⟨_, rfl⟩
  have HGR := Aside0.mk hgr
  have F0 := Aside0.mk (show cursor_Cursor_Take.f s 0 0 (((⟨#[80, 75, 1, 2]⟩ : ByteArray).size : Nat) : Int) = some (got, s0, a0, e0) from F0)
  go_enter Try.func20, Try.ntmps20
  go_upto_region 3 with (go_at_call 28; (with_reducible refine (begin_bad s (⟨#[80, 75, 1, 2]⟩ : ByteArray) got s0 a0 e0 _ F0.out he).mono ?_); rintro e' wd ⟨rfl, hb⟩; have HBd := Aside0.mk (below_step HZ.out hb); have HQd := Aside0.mk (blk_below HQZ.out hb); clear hb)
  rw [hgr] at HQd
  have r0 := blk_cell HQd.out 0; have z0 := blk_frozen HQd.out 0; have r1 := blk_cell HQd.out 1; have z1 := blk_frozen HQd.out 1; have r2 := blk_cell HQd.out 2; have z2 := blk_frozen HQd.out 2; have r3 := blk_cell HQd.out 3; have z3 := blk_frozen HQd.out 3; have r4 := blk_cell HQd.out 4; have z4 := blk_frozen HQd.out 4; have r5 := blk_cell HQd.out 5; have z5 := blk_frozen HQd.out 5; have r6 := blk_cell HQd.out 6; have z6 := blk_frozen HQd.out 6; have r7 := blk_cell HQd.out 7; have z7 := blk_frozen HQd.out 7; have r8 := blk_cell HQd.out 8; have z8 := blk_frozen HQd.out 8; have r9 := blk_cell HQd.out 9; have z9 := blk_frozen HQd.out 9; have r10 := blk_cell HQd.out 10; have z10 := blk_frozen HQd.out 10; have r11 := blk_cell HQd.out 11; have z11 := blk_frozen HQd.out 11; have r12 := blk_cell HQd.out 12; have z12 := blk_frozen HQd.out 12; have r13 := blk_cell HQd.out 13; have z13 := blk_frozen HQd.out 13; have r14 := blk_cell HQd.out 14; have z14 := blk_frozen HQd.out 14
  clear HZ HQZ
  go_wp2
  have HQz := Aside0.mk (show (((((((((((((((wd.setCell ⟨gr, 0, none⟩ (.int .u16 0)).setCell ⟨gr, 1, none⟩ (.int .u16 0)).setCell ⟨gr, 2, none⟩ (.int .u16 0)).setCell ⟨gr, 3, none⟩ (.int .u16 0)).setCell ⟨gr, 4, none⟩ (.int .u32 0)).setCell ⟨gr, 5, none⟩ (.int .u32 0)).setCell ⟨gr, 6, none⟩ (.int .u32 0)).setCell ⟨gr, 7, none⟩ (.int .u32 0)).setCell ⟨gr, 8, none⟩ (.int .u16 0)).setCell ⟨gr, 9, none⟩ (.int .u16 0)).setCell ⟨gr, 10, none⟩ (.int .u32 0)).setCell ⟨gr, 11, none⟩ (.int .u32 0)).setCell ⟨gr, 12, none⟩ (.string (⟨#[]⟩ : ByteArray))).setCell ⟨gr, 13, none⟩ (.string (⟨#[]⟩ : ByteArray))).setCell ⟨gr, 14, none⟩ (.string (⟨#[]⟩ : ByteArray))).heap[gr]? = some (.cells #[.int .u16 0, .int .u16 0, .int .u16 0, .int .u16 0, .int .u32 0, .int .u32 0, .int .u32 0, .int .u32 0, .int .u16 0, .int .u16 0, .int .u32 0, .int .u32 0, .string (⟨#[]⟩ : ByteArray), .string (⟨#[]⟩ : ByteArray), .string (⟨#[]⟩ : ByteArray)] 27 (0, 0)) by simpa using (blk_set (blk_set (blk_set (blk_set (blk_set (blk_set (blk_set (blk_set (blk_set (blk_set (blk_set (blk_set (blk_set (blk_set (blk_set HQd.out 0 (.int .u16 0)) 1 (.int .u16 0)) 2 (.int .u16 0)) 3 (.int .u16 0)) 4 (.int .u32 0)) 5 (.int .u32 0)) 6 (.int .u32 0)) 7 (.int .u32 0)) 8 (.int .u16 0)) 9 (.int .u16 0)) 10 (.int .u32 0)) 11 (.int .u32 0)) 12 (.string (⟨#[]⟩ : ByteArray))) 13 (.string (⟨#[]⟩ : ByteArray))) 14 (.string (⟨#[]⟩ : ByteArray))))
  have HBz := Aside0.mk (below_set (below_set (below_set (below_set (below_set (below_set (below_set (below_set (below_set (below_set (below_set (below_set (below_set (below_set (below_set HBd.out (Nat.le_of_eq HGR.out) (j := 0) (v := (.int .u16 0))) (Nat.le_of_eq HGR.out) (j := 1) (v := (.int .u16 0))) (Nat.le_of_eq HGR.out) (j := 2) (v := (.int .u16 0))) (Nat.le_of_eq HGR.out) (j := 3) (v := (.int .u16 0))) (Nat.le_of_eq HGR.out) (j := 4) (v := (.int .u32 0))) (Nat.le_of_eq HGR.out) (j := 5) (v := (.int .u32 0))) (Nat.le_of_eq HGR.out) (j := 6) (v := (.int .u32 0))) (Nat.le_of_eq HGR.out) (j := 7) (v := (.int .u32 0))) (Nat.le_of_eq HGR.out) (j := 8) (v := (.int .u16 0))) (Nat.le_of_eq HGR.out) (j := 9) (v := (.int .u16 0))) (Nat.le_of_eq HGR.out) (j := 10) (v := (.int .u32 0))) (Nat.le_of_eq HGR.out) (j := 11) (v := (.int .u32 0))) (Nat.le_of_eq HGR.out) (j := 12) (v := (.string (⟨#[]⟩ : ByteArray)))) (Nat.le_of_eq HGR.out) (j := 13) (v := (.string (⟨#[]⟩ : ByteArray)))) (Nat.le_of_eq HGR.out) (j := 14) (v := (.string (⟨#[]⟩ : ByteArray))))
  generalize (((((((((((((((wd.setCell ⟨gr, 0, none⟩ (.int .u16 0)).setCell ⟨gr, 1, none⟩ (.int .u16 0)).setCell ⟨gr, 2, none⟩ (.int .u16 0)).setCell ⟨gr, 3, none⟩ (.int .u16 0)).setCell ⟨gr, 4, none⟩ (.int .u32 0)).setCell ⟨gr, 5, none⟩ (.int .u32 0)).setCell ⟨gr, 6, none⟩ (.int .u32 0)).setCell ⟨gr, 7, none⟩ (.int .u32 0)).setCell ⟨gr, 8, none⟩ (.int .u16 0)).setCell ⟨gr, 9, none⟩ (.int .u16 0)).setCell ⟨gr, 10, none⟩ (.int .u32 0)).setCell ⟨gr, 11, none⟩ (.int .u32 0)).setCell ⟨gr, 12, none⟩ (.string (⟨#[]⟩ : ByteArray))).setCell ⟨gr, 13, none⟩ (.string (⟨#[]⟩ : ByteArray))).setCell ⟨gr, 14, none⟩ (.string (⟨#[]⟩ : ByteArray))) = wz at HQz HBz ⊢
  have y0 := blk_cell HQz.out 0
  have y1 := blk_cell HQz.out 1
  have y2 := blk_cell HQz.out 2
  have y3 := blk_cell HQz.out 3
  have y4 := blk_cell HQz.out 4
  have y5 := blk_cell HQz.out 5
  have y6 := blk_cell HQz.out 6
  have y7 := blk_cell HQz.out 7
  have y8 := blk_cell HQz.out 8
  have y9 := blk_cell HQz.out 9
  have y10 := blk_cell HQz.out 10
  have y11 := blk_cell HQz.out 11
  have y12 := blk_cell HQz.out 12
  have y13 := blk_cell HQz.out 13
  have y14 := blk_cell HQz.out 14
  simp only [List.getElem?_toArray, List.getElem?_cons_zero, List.getElem?_cons_succ] at y0 y1 y2 y3 y4 y5 y6 y7 y8 y9 y10 y11 y12 y13 y14
  exact bodyPost_ret (v := .tuple #[.agg #[.int .u16 0, .int .u16 0, .int .u16 0, .int .u16 0, .int .u32 0, .int .u32 0, .int .u32 0, .int .u32 0, .int .u16 0, .int .u16 0, .int .u32 0, .int .u32 0, .string (⟨#[]⟩ : ByteArray), .string (⟨#[]⟩ : ByteArray), .string (⟨#[]⟩ : ByteArray)], .int .i64 0, .int .i64 3]) (by simp [results, Try.results20, go_sem, y0, y1, y2, y3, y4, y5, y6, y7, y8, y9, y10, y11, y12, y13, y14]) rfl ⟨rfl, HBz.out⟩
set_option maxHeartbeats 8000000 in
set_option maxRecDepth 100000 in
theorem central_no (s got s0 : ByteArray) (a0 e0 : Int) (w : World) (F0 : cursor_Cursor_Take.f s 0 0 4 = some (got, s0, a0, 0)) (hg : (got.toList == (⟨#[80, 75, 1, 2]⟩ : ByteArray).toList) = false) :
    Calls Try.prog 20 #[.string s] w fun e w' => e = .returned (.tuple #[.agg #[.int .u16 0, .int .u16 0, .int .u16 0, .int .u16 0, .int .u32 0, .int .u32 0, .int .u32 0, .int .u32 0, .int .u16 0, .int .u16 0, .int .u32 0, .int .u32 0, .string (⟨#[]⟩ : ByteArray), .string (⟨#[]⟩ : ByteArray), .string (⟨#[]⟩ : ByteArray)], .int .i64 0, .int .i64 4]) ∧ Below w.heap.size w w' := by
  have HZ := Aside0.mk (below_alloc (Below.refl w.heap.size w) (.cells #[.int .u16 0, .int .u16 0, .int .u16 0, .int .u16 0, .int .u32 0, .int .u32 0, .int .u32 0, .int .u32 0, .int .u16 0, .int .u16 0, .int .u32 0, .int .u32 0, .string (⟨#[]⟩ : ByteArray), .string (⟨#[]⟩ : ByteArray), .string (⟨#[]⟩ : ByteArray)] 27))
  have HQZ := Aside0.mk (heap_alloc_new w (.cells #[.int .u16 0, .int .u16 0, .int .u16 0, .int .u16 0, .int .u32 0, .int .u32 0, .int .u32 0, .int .u32 0, .int .u16 0, .int .u16 0, .int .u32 0, .int .u32 0, .string (⟨#[]⟩ : ByteArray), .string (⟨#[]⟩ : ByteArray), .string (⟨#[]⟩ : ByteArray)] 27))
  obtain ⟨gr, hgr⟩ : ∃ g, w.heap.size = g := ⟨_, rfl⟩
  have HGR := Aside0.mk hgr
  have F0 := Aside0.mk (show cursor_Cursor_Take.f s 0 0 (((⟨#[80, 75, 1, 2]⟩ : ByteArray).size : Nat) : Int) = some (got, s0, a0, 0) from F0)
  go_enter Try.func20, Try.ntmps20
  go_upto_region 3 with (go_at_call 28; (with_reducible refine (begin_no s (⟨#[80, 75, 1, 2]⟩ : ByteArray) got s0 a0 _ F0.out hg).mono ?_); rintro e' wd ⟨rfl, hb⟩; have HBd := Aside0.mk (below_step HZ.out hb); have HQd := Aside0.mk (blk_below HQZ.out hb); clear hb)
  rw [hgr] at HQd
  have r0 := blk_cell HQd.out 0; have z0 := blk_frozen HQd.out 0; have r1 := blk_cell HQd.out 1; have z1 := blk_frozen HQd.out 1; have r2 := blk_cell HQd.out 2; have z2 := blk_frozen HQd.out 2; have r3 := blk_cell HQd.out 3; have z3 := blk_frozen HQd.out 3; have r4 := blk_cell HQd.out 4; have z4 := blk_frozen HQd.out 4; have r5 := blk_cell HQd.out 5; have z5 := blk_frozen HQd.out 5; have r6 := blk_cell HQd.out 6; have z6 := blk_frozen HQd.out 6; have r7 := blk_cell HQd.out 7; have z7 := blk_frozen HQd.out 7; have r8 := blk_cell HQd.out 8; have z8 := blk_frozen HQd.out 8; have r9 := blk_cell HQd.out 9; have z9 := blk_frozen HQd.out 9; have r10 := blk_cell HQd.out 10; have z10 := blk_frozen HQd.out 10; have r11 := blk_cell HQd.out 11; have z11 := blk_frozen HQd.out 11; have r12 := blk_cell HQd.out 12; have z12 := blk_frozen HQd.out 12; have r13 := blk_cell HQd.out 13; have z13 := blk_frozen HQd.out 13; have r14 := blk_cell HQd.out 14; have z14 := blk_frozen HQd.out 14
  clear HZ HQZ
  go_wp2
  have HQz := Aside0.mk (show (((((((((((((((wd.setCell ⟨gr, 0, none⟩ (.int .u16 0)).setCell ⟨gr, 1, none⟩ (.int .u16 0)).setCell ⟨gr, 2, none⟩ (.int .u16 0)).setCell ⟨gr, 3, none⟩ (.int .u16 0)).setCell ⟨gr, 4, none⟩ (.int .u32 0)).setCell ⟨gr, 5, none⟩ (.int .u32 0)).setCell ⟨gr, 6, none⟩ (.int .u32 0)).setCell ⟨gr, 7, none⟩ (.int .u32 0)).setCell ⟨gr, 8, none⟩ (.int .u16 0)).setCell ⟨gr, 9, none⟩ (.int .u16 0)).setCell ⟨gr, 10, none⟩ (.int .u32 0)).setCell ⟨gr, 11, none⟩ (.int .u32 0)).setCell ⟨gr, 12, none⟩ (.string (⟨#[]⟩ : ByteArray))).setCell ⟨gr, 13, none⟩ (.string (⟨#[]⟩ : ByteArray))).setCell ⟨gr, 14, none⟩ (.string (⟨#[]⟩ : ByteArray))).heap[gr]? = some (.cells #[.int .u16 0, .int .u16 0, .int .u16 0, .int .u16 0, .int .u32 0, .int .u32 0, .int .u32 0, .int .u32 0, .int .u16 0, .int .u16 0, .int .u32 0, .int .u32 0, .string (⟨#[]⟩ : ByteArray), .string (⟨#[]⟩ : ByteArray), .string (⟨#[]⟩ : ByteArray)] 27 (0, 0)) by simpa using (blk_set (blk_set (blk_set (blk_set (blk_set (blk_set (blk_set (blk_set (blk_set (blk_set (blk_set (blk_set (blk_set (blk_set (blk_set HQd.out 0 (.int .u16 0)) 1 (.int .u16 0)) 2 (.int .u16 0)) 3 (.int .u16 0)) 4 (.int .u32 0)) 5 (.int .u32 0)) 6 (.int .u32 0)) 7 (.int .u32 0)) 8 (.int .u16 0)) 9 (.int .u16 0)) 10 (.int .u32 0)) 11 (.int .u32 0)) 12 (.string (⟨#[]⟩ : ByteArray))) 13 (.string (⟨#[]⟩ : ByteArray))) 14 (.string (⟨#[]⟩ : ByteArray))))
  have HBz := Aside0.mk (below_set (below_set (below_set (below_set (below_set (below_set (below_set (below_set (below_set (below_set (below_set (below_set (below_set (below_set (below_set HBd.out (Nat.le_of_eq HGR.out) (j := 0) (v := (.int .u16 0))) (Nat.le_of_eq HGR.out) (j := 1) (v := (.int .u16 0))) (Nat.le_of_eq HGR.out) (j := 2) (v := (.int .u16 0))) (Nat.le_of_eq HGR.out) (j := 3) (v := (.int .u16 0))) (Nat.le_of_eq HGR.out) (j := 4) (v := (.int .u32 0))) (Nat.le_of_eq HGR.out) (j := 5) (v := (.int .u32 0))) (Nat.le_of_eq HGR.out) (j := 6) (v := (.int .u32 0))) (Nat.le_of_eq HGR.out) (j := 7) (v := (.int .u32 0))) (Nat.le_of_eq HGR.out) (j := 8) (v := (.int .u16 0))) (Nat.le_of_eq HGR.out) (j := 9) (v := (.int .u16 0))) (Nat.le_of_eq HGR.out) (j := 10) (v := (.int .u32 0))) (Nat.le_of_eq HGR.out) (j := 11) (v := (.int .u32 0))) (Nat.le_of_eq HGR.out) (j := 12) (v := (.string (⟨#[]⟩ : ByteArray)))) (Nat.le_of_eq HGR.out) (j := 13) (v := (.string (⟨#[]⟩ : ByteArray)))) (Nat.le_of_eq HGR.out) (j := 14) (v := (.string (⟨#[]⟩ : ByteArray))))
  generalize (((((((((((((((wd.setCell ⟨gr, 0, none⟩ (.int .u16 0)).setCell ⟨gr, 1, none⟩ (.int .u16 0)).setCell ⟨gr, 2, none⟩ (.int .u16 0)).setCell ⟨gr, 3, none⟩ (.int .u16 0)).setCell ⟨gr, 4, none⟩ (.int .u32 0)).setCell ⟨gr, 5, none⟩ (.int .u32 0)).setCell ⟨gr, 6, none⟩ (.int .u32 0)).setCell ⟨gr, 7, none⟩ (.int .u32 0)).setCell ⟨gr, 8, none⟩ (.int .u16 0)).setCell ⟨gr, 9, none⟩ (.int .u16 0)).setCell ⟨gr, 10, none⟩ (.int .u32 0)).setCell ⟨gr, 11, none⟩ (.int .u32 0)).setCell ⟨gr, 12, none⟩ (.string (⟨#[]⟩ : ByteArray))).setCell ⟨gr, 13, none⟩ (.string (⟨#[]⟩ : ByteArray))).setCell ⟨gr, 14, none⟩ (.string (⟨#[]⟩ : ByteArray))) = wz at HQz HBz ⊢
  have y0 := blk_cell HQz.out 0
  have y1 := blk_cell HQz.out 1
  have y2 := blk_cell HQz.out 2
  have y3 := blk_cell HQz.out 3
  have y4 := blk_cell HQz.out 4
  have y5 := blk_cell HQz.out 5
  have y6 := blk_cell HQz.out 6
  have y7 := blk_cell HQz.out 7
  have y8 := blk_cell HQz.out 8
  have y9 := blk_cell HQz.out 9
  have y10 := blk_cell HQz.out 10
  have y11 := blk_cell HQz.out 11
  have y12 := blk_cell HQz.out 12
  have y13 := blk_cell HQz.out 13
  have y14 := blk_cell HQz.out 14
  simp only [List.getElem?_toArray, List.getElem?_cons_zero, List.getElem?_cons_succ] at y0 y1 y2 y3 y4 y5 y6 y7 y8 y9 y10 y11 y12 y13 y14
  exact bodyPost_ret (v := .tuple #[.agg #[.int .u16 0, .int .u16 0, .int .u16 0, .int .u16 0, .int .u32 0, .int .u32 0, .int .u32 0, .int .u32 0, .int .u16 0, .int .u16 0, .int .u32 0, .int .u32 0, .string (⟨#[]⟩ : ByteArray), .string (⟨#[]⟩ : ByteArray), .string (⟨#[]⟩ : ByteArray)], .int .i64 0, .int .i64 4]) (by simp [results, Try.results20, go_sem, y0, y1, y2, y3, y4, y5, y6, y7, y8, y9, y10, y11, y12, y13, y14]) rfl ⟨rfl, HBz.out⟩
def header_ParseCentral.f (s : ByteArray) : Option (Int × Int × Int × Int × Int × Int × Int × Int × Int × Int × Int × Int × ByteArray × ByteArray × ByteArray × Int × Int) :=
  (cursor_Cursor_Take.f s 0 0 4).bind fun t0 => if t0.2.2.2 = 0 then (if (t0.1.toList == (⟨#[80, 75, 1, 2]⟩ : ByteArray).toList) = true then ((cursor_Cursor_Two.f 40 t0.2.1 t0.2.2.1 t0.2.2.2).bind fun t1 => (cursor_Cursor_Two.f 40 t1.2.1 t1.2.2.1 t1.2.2.2).bind fun t2 => (cursor_Cursor_Two.f 40 t2.2.1 t2.2.2.1 t2.2.2.2).bind fun t3 => (cursor_Cursor_Two.f 40 t3.2.1 t3.2.2.1 t3.2.2.2).bind fun t4 => (cursor_Cursor_Four.f 40 t4.2.1 t4.2.2.1 t4.2.2.2).bind fun t5 => (cursor_Cursor_Four.f 40 t5.2.1 t5.2.2.1 t5.2.2.2).bind fun t6 => (cursor_Cursor_Four.f 40 t6.2.1 t6.2.2.1 t6.2.2.2).bind fun t7 => (cursor_Cursor_Four.f 40 t7.2.1 t7.2.2.1 t7.2.2.2).bind fun t8 => (cursor_Cursor_Two.f 40 t8.2.1 t8.2.2.1 t8.2.2.2).bind fun t9 => (cursor_Cursor_Two.f 40 t9.2.1 t9.2.2.1 t9.2.2.2).bind fun t10 => (cursor_Cursor_Two.f 40 t10.2.1 t10.2.2.1 t10.2.2.2).bind fun t11 => (cursor_Cursor_Two.f 40 t11.2.1 t11.2.2.1 t11.2.2.2).bind fun t12 => (cursor_Cursor_Two.f 40 t12.2.1 t12.2.2.1 t12.2.2.2).bind fun t13 => (cursor_Cursor_Four.f 40 t13.2.1 t13.2.2.1 t13.2.2.2).bind fun t14 => (cursor_Cursor_Four.f 40 t14.2.1 t14.2.2.1 t14.2.2.2).bind fun t15 => (cursor_Cursor_Take.f t15.2.1 t15.2.2.1 t15.2.2.2 t9.1).bind fun t16 => (cursor_Cursor_Take.f t16.2.1 t16.2.2.1 t16.2.2.2 t10.1).bind fun t17 => (cursor_Cursor_Take.f t17.2.1 t17.2.2.1 t17.2.2.2 t11.1).bind fun t18 => if t18.2.2.2 = 0 then some (t1.1, t2.1, t3.1, t4.1, t5.1, t6.1, t7.1, t8.1, t12.1, t13.1, t14.1, t15.1, t16.1, t17.1, t18.1, t18.2.2.1, 0) else some (0, 0, 0, 0, 0, 0, 0, 0, 0, 0, 0, 0, (⟨#[]⟩ : ByteArray), (⟨#[]⟩ : ByteArray), (⟨#[]⟩ : ByteArray), 0, t18.2.2.2)) else some (0, 0, 0, 0, 0, 0, 0, 0, 0, 0, 0, 0, (⟨#[]⟩ : ByteArray), (⟨#[]⟩ : ByteArray), (⟨#[]⟩ : ByteArray), 0, 4)) else some (0, 0, 0, 0, 0, 0, 0, 0, 0, 0, 0, 0, (⟨#[]⟩ : ByteArray), (⟨#[]⟩ : ByteArray), (⟨#[]⟩ : ByteArray), 0, 3)
theorem header_ParseCentral.calls (s : ByteArray) (r1 : Int) (r2 : Int) (r3 : Int) (r4 : Int) (r5 : Int) (r6 : Int) (r7 : Int) (r8 : Int) (r9 : Int) (r10 : Int) (r11 : Int) (r12 : Int) (r13 : ByteArray) (r14 : ByteArray) (r15 : ByteArray) (r16 : Int) (r17 : Int) (w : World) (h : header_ParseCentral.f s = some (r1, r2, r3, r4, r5, r6, r7, r8, r9, r10, r11, r12, r13, r14, r15, r16, r17)) :
    Calls Try.prog 20 #[.string s] w fun e w' => e = .returned (.tuple #[.agg #[.int .u16 r1, .int .u16 r2, .int .u16 r3, .int .u16 r4, .int .u32 r5, .int .u32 r6, .int .u32 r7, .int .u32 r8, .int .u16 r9, .int .u16 r10, .int .u32 r11, .int .u32 r12, .string r13, .string r14, .string r15], .int .i64 r16, .int .i64 r17]) ∧ Below w.heap.size w w' := by
  unfold header_ParseCentral.f at h
  obtain ⟨⟨got, s0, a0, e0⟩, f0, h⟩ := Option.bind_eq_some_iff.1 h
  dsimp only at f0 h
  by_cases h0 : e0 = 0
  · subst h0
    rw [if_pos rfl] at h
    cases hg : (got.toList == (⟨#[80, 75, 1, 2]⟩ : ByteArray).toList) with
    | false =>
      rw [hg, if_neg (by decide)] at h
      simp only [Option.some.injEq, Prod.mk.injEq] at h; obtain ⟨rfl, rfl, rfl, rfl, rfl, rfl, rfl, rfl, rfl, rfl, rfl, rfl, rfl, rfl, rfl, rfl, rfl⟩ := h
      exact central_no s got s0 a0 0 w f0 hg
    | true =>
      rw [hg, if_pos rfl] at h
      obtain ⟨⟨v1, s1, a1, e1⟩, f1, h⟩ := Option.bind_eq_some_iff.1 h
      dsimp only at f1 h
      obtain ⟨⟨v2, s2, a2, e2⟩, f2, h⟩ := Option.bind_eq_some_iff.1 h
      dsimp only at f2 h
      obtain ⟨⟨v3, s3, a3, e3⟩, f3, h⟩ := Option.bind_eq_some_iff.1 h
      dsimp only at f3 h
      obtain ⟨⟨v4, s4, a4, e4⟩, f4, h⟩ := Option.bind_eq_some_iff.1 h
      dsimp only at f4 h
      obtain ⟨⟨v5, s5, a5, e5⟩, f5, h⟩ := Option.bind_eq_some_iff.1 h
      dsimp only at f5 h
      obtain ⟨⟨v6, s6, a6, e6⟩, f6, h⟩ := Option.bind_eq_some_iff.1 h
      dsimp only at f6 h
      obtain ⟨⟨v7, s7, a7, e7⟩, f7, h⟩ := Option.bind_eq_some_iff.1 h
      dsimp only at f7 h
      obtain ⟨⟨v8, s8, a8, e8⟩, f8, h⟩ := Option.bind_eq_some_iff.1 h
      dsimp only at f8 h
      obtain ⟨⟨v9, s9, a9, e9⟩, f9, h⟩ := Option.bind_eq_some_iff.1 h
      dsimp only at f9 h
      obtain ⟨⟨v10, s10, a10, e10⟩, f10, h⟩ := Option.bind_eq_some_iff.1 h
      dsimp only at f10 h
      obtain ⟨⟨v11, s11, a11, e11⟩, f11, h⟩ := Option.bind_eq_some_iff.1 h
      dsimp only at f11 h
      obtain ⟨⟨v12, s12, a12, e12⟩, f12, h⟩ := Option.bind_eq_some_iff.1 h
      dsimp only at f12 h
      obtain ⟨⟨v13, s13, a13, e13⟩, f13, h⟩ := Option.bind_eq_some_iff.1 h
      dsimp only at f13 h
      obtain ⟨⟨v14, s14, a14, e14⟩, f14, h⟩ := Option.bind_eq_some_iff.1 h
      dsimp only at f14 h
      obtain ⟨⟨v15, s15, a15, e15⟩, f15, h⟩ := Option.bind_eq_some_iff.1 h
      dsimp only at f15 h
      obtain ⟨⟨x16, s16, a16, e16⟩, f16, h⟩ := Option.bind_eq_some_iff.1 h
      dsimp only at f16 h
      obtain ⟨⟨x17, s17, a17, e17⟩, f17, h⟩ := Option.bind_eq_some_iff.1 h
      dsimp only at f17 h
      obtain ⟨⟨x18, s18, a18, e18⟩, f18, h⟩ := Option.bind_eq_some_iff.1 h
      dsimp only at f18 h
      by_cases he : e18 = 0
      · rw [if_pos he] at h
        simp only [Option.some.injEq, Prod.mk.injEq] at h; obtain ⟨rfl, rfl, rfl, rfl, rfl, rfl, rfl, rfl, rfl, rfl, rfl, rfl, rfl, rfl, rfl, rfl, rfl⟩ := h
        exact central_ok s got s0 a0 v1 s1 a1 e1 v2 s2 a2 e2 v3 s3 a3 e3 v4 s4 a4 e4 v5 s5 a5 e5 v6 s6 a6 e6 v7 s7 a7 e7 v8 s8 a8 e8 v9 s9 a9 e9 v10 s10 a10 e10 v11 s11 a11 e11 v12 s12 a12 e12 v13 s13 a13 e13 v14 s14 a14 e14 v15 s15 a15 e15 x16 s16 a16 e16 x17 s17 a17 e17 x18 s18 a18 e18 (by simp [he]) w f0 hg f1 f2 f3 f4 f5 f6 f7 f8 f9 f10 f11 f12 f13 f14 f15 f16 f17 f18 (two_range f9).1 (two_range f9).2 (two_range f10).1 (two_range f10).2 (two_range f11).1 (two_range f11).2
      · rw [if_neg he] at h
        simp only [Option.some.injEq, Prod.mk.injEq] at h; obtain ⟨rfl, rfl, rfl, rfl, rfl, rfl, rfl, rfl, rfl, rfl, rfl, rfl, rfl, rfl, rfl, rfl, rfl⟩ := h
        exact central_fail s got s0 a0 v1 s1 a1 e1 v2 s2 a2 e2 v3 s3 a3 e3 v4 s4 a4 e4 v5 s5 a5 e5 v6 s6 a6 e6 v7 s7 a7 e7 v8 s8 a8 e8 v9 s9 a9 e9 v10 s10 a10 e10 v11 s11 a11 e11 v12 s12 a12 e12 v13 s13 a13 e13 v14 s14 a14 e14 v15 s15 a15 e15 x16 s16 a16 e16 x17 s17 a17 e17 x18 s18 a18 e18 (by simp [he]) w f0 hg f1 f2 f3 f4 f5 f6 f7 f8 f9 f10 f11 f12 f13 f14 f15 f16 f17 f18 (two_range f9).1 (two_range f9).2 (two_range f10).1 (two_range f10).2 (two_range f11).1 (two_range f11).2
  · rw [if_neg h0] at h
    simp only [Option.some.injEq, Prod.mk.injEq] at h; obtain ⟨rfl, rfl, rfl, rfl, rfl, rfl, rfl, rfl, rfl, rfl, rfl, rfl, rfl, rfl, rfl, rfl, rfl⟩ := h
    exact central_bad s got s0 a0 e0 w f0 h0
end Go.Proofs.Ytnjfddmajiihjaa.P
