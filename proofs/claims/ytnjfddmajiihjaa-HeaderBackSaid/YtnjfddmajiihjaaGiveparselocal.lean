import Derived.Test.YtnjfddmajiihjaaMg4
import Derived.Test.YtnjfddmajiihjaaPx10
import Derived.Test.YtnjfddmajiihjaaPx9
namespace Go.Proofs.Ytnjfddmajiihjaa.P
set_option linter.unusedVariables false
set_option linter.unusedSimpArgs false
open Go Go.RowKit Go.Proofs.Ytnjfddmajiihjaa.B Go.Proofs.Ytnjfddmajiihjaa.Hp Go.Proofs.YtnjfddmajiihjaaW.PrintWords Go.Proofs.YtnjfddmajiihjaaW.PrintLast Go.Proofs.YtnjfddmajiihjaaW.PrintMore
set_option maxHeartbeats 8000000 in
set_option maxRecDepth 100000 in
theorem local_ok (s got s0 : ByteArray) (a0 : Int) (v1 : Int) (s1 : ByteArray) (a1 e1 : Int) (v2 : Int) (s2 : ByteArray) (a2 e2 : Int) (v3 : Int) (s3 : ByteArray) (a3 e3 : Int) (v4 : Int) (s4 : ByteArray) (a4 e4 : Int) (v5 : Int) (s5 : ByteArray) (a5 e5 : Int) (v6 : Int) (s6 : ByteArray) (a6 e6 : Int) (v7 : Int) (s7 : ByteArray) (a7 e7 : Int) (v8 : Int) (s8 : ByteArray) (a8 e8 : Int) (v9 : Int) (s9 : ByteArray) (a9 e9 : Int) (x10 : ByteArray) (s10 : ByteArray) (a10 e10 : Int) (x11 : ByteArray) (s11 : ByteArray) (a11 e11 : Int) (he : (e11 != 0) = false) (w : World) (F0 : cursor_Cursor_Take.f s 0 0 4 = some (got, s0, a0, 0)) (hg : (got.toList == (⟨#[80, 75, 3, 4]⟩ : ByteArray).toList) = true) (f1 : cursor_Cursor_Two.f 40 s0 a0 0 = some (v1, s1, a1, e1)) (f2 : cursor_Cursor_Two.f 40 s1 a1 e1 = some (v2, s2, a2, e2)) (f3 : cursor_Cursor_Two.f 40 s2 a2 e2 = some (v3, s3, a3, e3)) (f4 : cursor_Cursor_Four.f 40 s3 a3 e3 = some (v4, s4, a4, e4)) (f5 : cursor_Cursor_Four.f 40 s4 a4 e4 = some (v5, s5, a5, e5)) (f6 : cursor_Cursor_Four.f 40 s5 a5 e5 = some (v6, s6, a6, e6)) (f7 : cursor_Cursor_Four.f 40 s6 a6 e6 = some (v7, s7, a7, e7)) (f8 : cursor_Cursor_Two.f 40 s7 a7 e7 = some (v8, s8, a8, e8)) (f9 : cursor_Cursor_Two.f 40 s8 a8 e8 = some (v9, s9, a9, e9)) (f10 : cursor_Cursor_Take.f s9 a9 e9 v8 = some (x10, s10, a10, e10)) (f11 : cursor_Cursor_Take.f s10 a10 e10 v9 = some (x11, s11, a11, e11)) (p_v8 : 0 ≤ v8) (q_v8 : v8 ≤ 65535) (p_v9 : 0 ≤ v9) (q_v9 : v9 ≤ 65535) :
    Calls Try.prog 17 #[.string s] w fun e w' => e = .returned (.tuple #[.agg #[.int .u16 v1, .int .u16 v2, .int .u16 v3, .int .u32 v4, .int .u32 v5, .int .u32 v6, .int .u32 v7, .string x10, .string x11], .int .i64 a11, .int .i64 0]) ∧ Below w.heap.size w w' := by
  have F1 := Aside0.mk f1
  have F2 := Aside0.mk f2
  have F3 := Aside0.mk f3
  have F4 := Aside0.mk f4
  have F5 := Aside0.mk f5
  have F6 := Aside0.mk f6
  have F7 := Aside0.mk f7
  have F8 := Aside0.mk f8
  have F9 := Aside0.mk f9
  have F10 := Aside0.mk f10
  have F11 := Aside0.mk f11
  clear f1 f2 f3 f4 f5 f6 f7 f8 f9 f10 f11
  have HZ := Aside0.mk (below_alloc (Below.refl w.heap.size w) (.cells #[.int .u16 0, .int .u16 0, .int .u16 0, .int .u32 0, .int .u32 0, .int .u32 0, .int .u32 0, .string (⟨#[]⟩ : ByteArray), .string (⟨#[]⟩ : ByteArray)] 25))
  have HQZ := Aside0.mk (heap_alloc_new w (.cells #[.int .u16 0, .int .u16 0, .int .u16 0, .int .u32 0, .int .u32 0, .int .u32 0, .int .u32 0, .string (⟨#[]⟩ : ByteArray), .string (⟨#[]⟩ : ByteArray)] 25))
  obtain ⟨gr, hgr⟩ : ∃ g, w.heap.size = g := ⟨_, rfl⟩
  have HGR := Aside0.mk hgr
  have F0 := Aside0.mk (show cursor_Cursor_Take.f s 0 0 (((⟨#[80, 75, 3, 4]⟩ : ByteArray).size : Nat) : Int) = some (got, s0, a0, 0) from F0)
  go_enter Try.func17, Try.ntmps17
  go_upto_region 4 with (go_at_call 28; (with_reducible refine (begin_ok s (⟨#[80, 75, 3, 4]⟩ : ByteArray) got s0 a0 w _ HZ.out F0.out hg).mono ?_); rintro e' w0 ⟨gc, rfl, hi, hb, hb2⟩; have HC0 := Aside0.mk hi; have HB0 := Aside0.mk hb; have HQ0 := Aside0.mk (blk_below HQZ.out hb2); clear hi hb hb2)
  rw [hgr] at HQ0
  clear HZ HQZ
  go_upto_region 5 with (first
    | (go_at_call 29; (with_reducible refine (cursor_Cursor_Two.calls 40 gc s0 a0 0 v1 s1 a1 e1 w _ HC0.out HB0.out F1.out).mono ?_); rintro e' w1 ⟨rfl, hi, hb, hk⟩; have HC1 := Aside0.mk hi; have HB1 := Aside0.mk hb; have HQ1 := Aside0.mk (kp HC0.out HQ0.out (by decide) hk); clear hi hb hk)
    | (go_at_call 29; (with_reducible refine (cursor_Cursor_Two.calls 40 gc s1 a1 e1 v2 s2 a2 e2 w _ HC1.out HB1.out F2.out).mono ?_); rintro e' w2 ⟨rfl, hi, hb, hk⟩; have HC2 := Aside0.mk hi; have HB2 := Aside0.mk hb; have HQ2 := Aside0.mk (kp HC1.out HQ1.out (by decide) hk); clear hi hb hk)
    | (go_at_call 29; (with_reducible refine (cursor_Cursor_Two.calls 40 gc s2 a2 e2 v3 s3 a3 e3 w _ HC2.out HB2.out F3.out).mono ?_); rintro e' w3 ⟨rfl, hi, hb, hk⟩; have HC3 := Aside0.mk hi; have HB3 := Aside0.mk hb; have HQ3 := Aside0.mk (kp HC2.out HQ2.out (by decide) hk); clear hi hb hk)
    | (go_at_call 30; (with_reducible refine (cursor_Cursor_Four.calls 40 gc s3 a3 e3 v4 s4 a4 e4 w _ HC3.out HB3.out F4.out).mono ?_); rintro e' w4 ⟨rfl, hi, hb, hk⟩; have HC4 := Aside0.mk hi; have HB4 := Aside0.mk hb; have HQ4 := Aside0.mk (kp HC3.out HQ3.out (by decide) hk); clear hi hb hk)
    | (go_at_call 30; (with_reducible refine (cursor_Cursor_Four.calls 40 gc s4 a4 e4 v5 s5 a5 e5 w _ HC4.out HB4.out F5.out).mono ?_); rintro e' w5 ⟨rfl, hi, hb, hk⟩; have HC5 := Aside0.mk hi; have HB5 := Aside0.mk hb; have HQ5 := Aside0.mk (kp HC4.out HQ4.out (by decide) hk); clear hi hb hk)
    | (go_at_call 30; (with_reducible refine (cursor_Cursor_Four.calls 40 gc s5 a5 e5 v6 s6 a6 e6 w _ HC5.out HB5.out F6.out).mono ?_); rintro e' w6 ⟨rfl, hi, hb, hk⟩; have HC6 := Aside0.mk hi; have HB6 := Aside0.mk hb; have HQ6 := Aside0.mk (kp HC5.out HQ5.out (by decide) hk); clear hi hb hk)
    | (go_at_call 30; (with_reducible refine (cursor_Cursor_Four.calls 40 gc s6 a6 e6 v7 s7 a7 e7 w _ HC6.out HB6.out F7.out).mono ?_); rintro e' w7 ⟨rfl, hi, hb, hk⟩; have HC7 := Aside0.mk hi; have HB7 := Aside0.mk hb; have HQ7 := Aside0.mk (kp HC6.out HQ6.out (by decide) hk); clear hi hb hk))
  have HBa := Aside0.mk (below_alloc HB7.out (.cells #[.int .u16 v1, .int .u16 v2, .int .u16 v3, .int .u32 v4, .int .u32 v5, .int .u32 v6, .int .u32 v7, .string (⟨#[]⟩ : ByteArray), .string (⟨#[]⟩ : ByteArray)] 25))
  have HCa := Aside0.mk (IsS91.alloc HC7.out (.cells #[.int .u16 v1, .int .u16 v2, .int .u16 v3, .int .u32 v4, .int .u32 v5, .int .u32 v6, .int .u32 v7, .string (⟨#[]⟩ : ByteArray), .string (⟨#[]⟩ : ByteArray)] 25))
  have HQa := Aside0.mk (blk_alloc HQ7.out (.cells #[.int .u16 v1, .int .u16 v2, .int .u16 v3, .int .u32 v4, .int .u32 v5, .int .u32 v6, .int .u32 v7, .string (⟨#[]⟩ : ByteArray), .string (⟨#[]⟩ : ByteArray)] 25))
  have HSa := Aside0.mk (heap_alloc_new w7 (.cells #[.int .u16 v1, .int .u16 v2, .int .u16 v3, .int .u32 v4, .int .u32 v5, .int .u32 v6, .int .u32 v7, .string (⟨#[]⟩ : ByteArray), .string (⟨#[]⟩ : ByteArray)] 25))
  have HNE := Aside0.mk (show gr ≠ w7.heap.size from Nat.ne_of_lt (blk_lt HQ7.out))
  have HGE := Aside0.mk (HB7.out.size)
  generalize w7.alloc (.cells #[.int .u16 v1, .int .u16 v2, .int .u16 v3, .int .u32 v4, .int .u32 v5, .int .u32 v6, .int .u32 v7, .string (⟨#[]⟩ : ByteArray), .string (⟨#[]⟩ : ByteArray)] 25) = wa at HBa HCa HQa HSa ⊢
  generalize w7.heap.size = g7 at HSa HNE HGE ⊢
  have HB7 := HBa; have HC7 := HCa; have HQ7 := HQa; have HS7 := HSa
  clear HBa HCa HQa HSa HC0 HB0 HQ0
  go_upto_region 6 with (first
    | (go_at_call 29; (with_reducible refine (cursor_Cursor_Two.calls 40 gc s7 a7 e7 v8 s8 a8 e8 w _ HC7.out HB7.out F8.out).mono ?_); rintro e' w8 ⟨rfl, hi, hb, hk⟩; have HC8 := Aside0.mk hi; have HB8 := Aside0.mk hb; have HQ8 := Aside0.mk (kp HC7.out HQ7.out (by decide) hk); have HS8 := Aside0.mk (kp HC7.out HS7.out (by decide) hk); clear hi hb hk)
    | (go_at_call 29; (with_reducible refine (cursor_Cursor_Two.calls 40 gc s8 a8 e8 v9 s9 a9 e9 w _ HC8.out HB8.out F9.out).mono ?_); rintro e' w9 ⟨rfl, hi, hb, hk⟩; have HC9 := Aside0.mk hi; have HB9 := Aside0.mk hb; have HQ9 := Aside0.mk (kp HC8.out HQ8.out (by decide) hk); have HS9 := Aside0.mk (kp HC8.out HS8.out (by decide) hk); clear hi hb hk))
  go_upto_region 7 with (first
    | (go_at_call 31; (with_reducible refine (cursor_Cursor_Take.calls gc s9 a9 e9 v8 x10 s10 a10 e10 w _ HC9.out HB9.out F10.out).mono ?_); rintro e' w10 ⟨rfl, hi, hb, hk⟩; have HC10 := Aside0.mk hi; have HB10 := Aside0.mk hb; have HQ10 := Aside0.mk (kp HC9.out HQ9.out (by decide) hk); have HS10 := Aside0.mk (kp HC9.out HS9.out (by decide) hk); clear hi hb hk)
    | (go_at_call 31; (with_reducible refine (cursor_Cursor_Take.calls gc s10 a10 e10 v9 x11 s11 a11 e11 w _ HC10.out HB10.out F11.out).mono ?_); rintro e' w11 ⟨rfl, hi, hb, hk⟩; have HC11 := Aside0.mk hi; have HB11 := Aside0.mk hb; have HQ11 := Aside0.mk (kp HC10.out HQ10.out (by decide) hk); have HS11 := Aside0.mk (kp HC10.out HS10.out (by decide) hk); clear hi hb hk; have c7 := blk_cell HS11.out 7; have z7 := blk_frozen HS11.out 7; have c8 := blk_cell HS11.out 8; have z8 := blk_frozen HS11.out 8))
  have hgc : gc ≠ g7 := IsS91.ne_blk HC11.out HS11.out (by decide)
  have HCb := Aside0.mk (IsS91.far (IsS91.far HC11.out (p := ⟨g7, 7, none⟩) hgc (.string x10)) (p := ⟨g7, 8, none⟩) hgc (.string x11))
  have HBb := Aside0.mk (below_set (below_set HB11.out HGE.out (j := 7) (v := (.string x10))) HGE.out (j := 8) (v := (.string x11)))
  have HQb := Aside0.mk (blk_far (blk_far HQ11.out (p := ⟨g7, 7, none⟩) HNE.out (.string x10)) (p := ⟨g7, 8, none⟩) HNE.out (.string x11))
  have HSb := Aside0.mk (show ((w11.setCell ⟨g7, 7, none⟩ (.string x10)).setCell ⟨g7, 8, none⟩ (.string x11)).heap[g7]? = some (.cells #[.int .u16 v1, .int .u16 v2, .int .u16 v3, .int .u32 v4, .int .u32 v5, .int .u32 v6, .int .u32 v7, .string x10, .string x11] 25 (0, 0)) by simpa using (blk_set (blk_set HS11.out 7 (.string x10)) 8 (.string x11)))
  generalize ((w11.setCell ⟨g7, 7, none⟩ (.string x10)).setCell ⟨g7, 8, none⟩ (.string x11)) = wb11 at HCb HBb HQb HSb ⊢
  clear c7 z7 c8 z8 HC11 HB11 HQ11 HS11 hgc
  have HC11 := HCb; have HB11 := HBb; have HQ11 := HQb; have HS11 := HSb
  clear HCb HBb HQb HSb
  go_upto_region 9 with (go_at_call 32; (with_reducible refine (cursor_Cursor_Err.calls gc s11 a11 e11 e11 s11 a11 e11 w _ HC11.out HB11.out rfl).mono ?_); rintro e' wc ⟨rfl, hi, hb, hk⟩; have HCc := Aside0.mk hi; have HBc := Aside0.mk hb; have HQc := Aside0.mk (kp HC11.out HQ11.out (by decide) hk); have HSc := Aside0.mk (kp HC11.out HS11.out (by decide) hk); clear hi hb hk)
  refine start_ (n := 6) (S := fun w' => w'.cell? ⟨g7, 0, none⟩ = some (.int .u16 v1) ∧ w'.cell? ⟨g7, 1, none⟩ = some (.int .u16 v2) ∧ w'.cell? ⟨g7, 2, none⟩ = some (.int .u16 v3) ∧ w'.cell? ⟨g7, 3, none⟩ = some (.int .u32 v4) ∧ w'.cell? ⟨g7, 4, none⟩ = some (.int .u32 v5) ∧ w'.cell? ⟨g7, 5, none⟩ = some (.int .u32 v6) ∧ w'.cell? ⟨g7, 6, none⟩ = some (.int .u32 v7) ∧ w'.cell? ⟨g7, 7, none⟩ = some (.string x10) ∧ w'.cell? ⟨g7, 8, none⟩ = some (.string x11)) (ds := [3]) #[false, false, false, false, false, false] (by as_aux_lemma => kernel_rfl) rfl rfl ⟨(blk_cell HSc.out 0), (blk_cell HSc.out 1), (blk_cell HSc.out 2), (blk_cell HSc.out 3), (blk_cell HSc.out 4), (blk_cell HSc.out 5), (blk_cell HSc.out 6), (blk_cell HSc.out 7), (blk_cell HSc.out 8)⟩ (fun hHeld => ?_)
  refine pure_ (i := 1) (N := some 55) (v := ?_) (a' := ?_) #[false, true, false, false, false, false] rfl rfl (by as_aux_lemma => kernel_rfl) (fun _ _ _ h => h) (Or.inl ⟨by rfl, ?_⟩) ?_ ?_
  rotate_left
  · intro w'
    go_simp
    with_reducible rfl
  rotate_left
  · simp only [Act.put, List.setIfInBounds_toArray, List.set_cons_zero, List.set_cons_succ, i64_w, i32_w]
    rfl
  refine take_ (i := 0) (N := some 54) (v := ?_) (a' := ?_) #[true, true, false, false, false, false] rfl rfl (by as_aux_lemma => kernel_rfl) (fun _ _ _ h => h) (Or.inl ⟨by rfl, ?_⟩) hHeld ?_ ?_
  rotate_left
  · rintro w' ⟨s0, s1, s2, s3, s4, s5, s6, s7, s8⟩
    go_simp
    with_reducible rfl
  rotate_left
  · simp only [Act.put, List.setIfInBounds_toArray, List.set_cons_zero, List.set_cons_succ, i64_w, i32_w]
    rfl
  refine one_ (i := 2) (N := some 56) #[true, true, true, false, false, false] rfl rfl (by as_aux_lemma => kernel_rfl) (by decide) (fun K hK => ?_)
  refine goes_ Try.func33 (by as_aux_lemma => kernel_rfl) rfl #[.pointer (some ⟨gc, 0, none⟩)] (by rfl) rfl rfl (by simp only [List.map_toArray, List.map_cons, List.map_nil]; rfl) ?_
  with_reducible refine (cursor_Cursor_At.calls gc s11 a11 e11 a11 s11 a11 e11 w _ (IsS91.drew HCc.out) (below_drew1 HBc.out) rfl).mono ?_
  rintro e' wd ⟨rfl, hi, hb, hk⟩
  refine ⟨_, rfl, ?_⟩
  have HCd := Aside0.mk hi; have HBd := Aside0.mk hb; have HQd := Aside0.mk (kp (IsS91.drew HCc.out) (blk_drew HQc.out) (by decide) hk); have HSd := Aside0.mk (kp (IsS91.drew HCc.out) (blk_drew HSc.out) (by decide) hk); clear hi hb hk
  refine hK.out _ _ ⟨(blk_cell HSd.out 0), (blk_cell HSd.out 1), (blk_cell HSd.out 2), (blk_cell HSd.out 3), (blk_cell HSd.out 4), (blk_cell HSd.out 5), (blk_cell HSd.out 6), (blk_cell HSd.out 7), (blk_cell HSd.out 8)⟩ (fun hHeld => ?_)
  clear hK K
  refine norm_ (a' := ?_) ?_ ?_
  rotate_left
  · show Act.put _ (some 56) _ = _
    simp only [Act.put, List.setIfInBounds_toArray, List.set_cons_zero, List.set_cons_succ, i64_w, i32_w]
    rfl
  refine last_ (i := 3) (N := none) #[true, true, true, true, false, false] rfl rfl (by as_aux_lemma => kernel_rfl) (by decide) (fun K hK => ?_)
  have r0 := blk_cell HQd.out 0; have z0 := blk_frozen HQd.out 0; have r1 := blk_cell HQd.out 1; have z1 := blk_frozen HQd.out 1; have r2 := blk_cell HQd.out 2; have z2 := blk_frozen HQd.out 2; have r3 := blk_cell HQd.out 3; have z3 := blk_frozen HQd.out 3; have r4 := blk_cell HQd.out 4; have z4 := blk_frozen HQd.out 4; have r5 := blk_cell HQd.out 5; have z5 := blk_frozen HQd.out 5; have r6 := blk_cell HQd.out 6; have z6 := blk_frozen HQd.out 6; have r7 := blk_cell HQd.out 7; have z7 := blk_frozen HQd.out 7; have r8 := blk_cell HQd.out 8; have z8 := blk_frozen HQd.out 8
  refine skip_ (w1 := ?_) (by rfl) rfl ?_ ?_
  rotate_left
  · go_simp
    rfl
  refine hK.out _ _ ?_
  clear hK K
  refine pure_ (i := 4) (N := some 3) (v := ?_) (a' := ?_) #[true, true, true, true, true, false] rfl rfl (by as_aux_lemma => kernel_rfl) (fun _ _ _ h => h) (Or.inl ⟨by rfl, ?_⟩) ?_ ?_
  rotate_left
  · intro w'
    go_simp
    with_reducible rfl
  rotate_left
  · simp only [Act.put, List.setIfInBounds_toArray, List.set_cons_zero, List.set_cons_succ, i64_w, i32_w]
    rfl
  refine pure_ (i := 5) (N := some 4) (v := ?_) (a' := ?_) #[true, true, true, true, true, true] rfl rfl (by as_aux_lemma => kernel_rfl) (fun _ _ _ h => h) (Or.inl ⟨by rfl, ?_⟩) ?_ ?_
  rotate_left
  · intro w'
    go_simp
    with_reducible rfl
  rotate_left
  · simp only [Act.put, List.setIfInBounds_toArray, List.set_cons_zero, List.set_cons_succ, i64_w, i32_w]
    rfl
  refine done_ (by as_aux_lemma => kernel_rfl) ?_
  go_wp2
  have HQz := Aside0.mk (show (((((((((wd.setCell ⟨gr, 0, none⟩ (.int .u16 v1)).setCell ⟨gr, 1, none⟩ (.int .u16 v2)).setCell ⟨gr, 2, none⟩ (.int .u16 v3)).setCell ⟨gr, 3, none⟩ (.int .u32 v4)).setCell ⟨gr, 4, none⟩ (.int .u32 v5)).setCell ⟨gr, 5, none⟩ (.int .u32 v6)).setCell ⟨gr, 6, none⟩ (.int .u32 v7)).setCell ⟨gr, 7, none⟩ (.string x10)).setCell ⟨gr, 8, none⟩ (.string x11)).heap[gr]? = some (.cells #[.int .u16 v1, .int .u16 v2, .int .u16 v3, .int .u32 v4, .int .u32 v5, .int .u32 v6, .int .u32 v7, .string x10, .string x11] 25 (0, 0)) by simpa using (blk_set (blk_set (blk_set (blk_set (blk_set (blk_set (blk_set (blk_set (blk_set HQd.out 0 (.int .u16 v1)) 1 (.int .u16 v2)) 2 (.int .u16 v3)) 3 (.int .u32 v4)) 4 (.int .u32 v5)) 5 (.int .u32 v6)) 6 (.int .u32 v7)) 7 (.string x10)) 8 (.string x11)))
  have HBz := Aside0.mk (below_set (below_set (below_set (below_set (below_set (below_set (below_set (below_set (below_set HBd.out (Nat.le_of_eq HGR.out) (j := 0) (v := (.int .u16 v1))) (Nat.le_of_eq HGR.out) (j := 1) (v := (.int .u16 v2))) (Nat.le_of_eq HGR.out) (j := 2) (v := (.int .u16 v3))) (Nat.le_of_eq HGR.out) (j := 3) (v := (.int .u32 v4))) (Nat.le_of_eq HGR.out) (j := 4) (v := (.int .u32 v5))) (Nat.le_of_eq HGR.out) (j := 5) (v := (.int .u32 v6))) (Nat.le_of_eq HGR.out) (j := 6) (v := (.int .u32 v7))) (Nat.le_of_eq HGR.out) (j := 7) (v := (.string x10))) (Nat.le_of_eq HGR.out) (j := 8) (v := (.string x11)))
  generalize (((((((((wd.setCell ⟨gr, 0, none⟩ (.int .u16 v1)).setCell ⟨gr, 1, none⟩ (.int .u16 v2)).setCell ⟨gr, 2, none⟩ (.int .u16 v3)).setCell ⟨gr, 3, none⟩ (.int .u32 v4)).setCell ⟨gr, 4, none⟩ (.int .u32 v5)).setCell ⟨gr, 5, none⟩ (.int .u32 v6)).setCell ⟨gr, 6, none⟩ (.int .u32 v7)).setCell ⟨gr, 7, none⟩ (.string x10)).setCell ⟨gr, 8, none⟩ (.string x11)) = wz at HQz HBz ⊢
  have y0 := blk_cell HQz.out 0
  have y1 := blk_cell HQz.out 1
  have y2 := blk_cell HQz.out 2
  have y3 := blk_cell HQz.out 3
  have y4 := blk_cell HQz.out 4
  have y5 := blk_cell HQz.out 5
  have y6 := blk_cell HQz.out 6
  have y7 := blk_cell HQz.out 7
  have y8 := blk_cell HQz.out 8
  simp only [List.getElem?_toArray, List.getElem?_cons_zero, List.getElem?_cons_succ] at y0 y1 y2 y3 y4 y5 y6 y7 y8
  exact bodyPost_ret (v := .tuple #[.agg #[.int .u16 v1, .int .u16 v2, .int .u16 v3, .int .u32 v4, .int .u32 v5, .int .u32 v6, .int .u32 v7, .string x10, .string x11], .int .i64 a11, .int .i64 0]) (by simp [results, Try.results17, go_sem, y0, y1, y2, y3, y4, y5, y6, y7, y8]) rfl ⟨rfl, HBz.out⟩
set_option maxHeartbeats 8000000 in
set_option maxRecDepth 100000 in
theorem local_fail (s got s0 : ByteArray) (a0 : Int) (v1 : Int) (s1 : ByteArray) (a1 e1 : Int) (v2 : Int) (s2 : ByteArray) (a2 e2 : Int) (v3 : Int) (s3 : ByteArray) (a3 e3 : Int) (v4 : Int) (s4 : ByteArray) (a4 e4 : Int) (v5 : Int) (s5 : ByteArray) (a5 e5 : Int) (v6 : Int) (s6 : ByteArray) (a6 e6 : Int) (v7 : Int) (s7 : ByteArray) (a7 e7 : Int) (v8 : Int) (s8 : ByteArray) (a8 e8 : Int) (v9 : Int) (s9 : ByteArray) (a9 e9 : Int) (x10 : ByteArray) (s10 : ByteArray) (a10 e10 : Int) (x11 : ByteArray) (s11 : ByteArray) (a11 e11 : Int) (he : (e11 != 0) = true) (w : World) (F0 : cursor_Cursor_Take.f s 0 0 4 = some (got, s0, a0, 0)) (hg : (got.toList == (⟨#[80, 75, 3, 4]⟩ : ByteArray).toList) = true) (f1 : cursor_Cursor_Two.f 40 s0 a0 0 = some (v1, s1, a1, e1)) (f2 : cursor_Cursor_Two.f 40 s1 a1 e1 = some (v2, s2, a2, e2)) (f3 : cursor_Cursor_Two.f 40 s2 a2 e2 = some (v3, s3, a3, e3)) (f4 : cursor_Cursor_Four.f 40 s3 a3 e3 = some (v4, s4, a4, e4)) (f5 : cursor_Cursor_Four.f 40 s4 a4 e4 = some (v5, s5, a5, e5)) (f6 : cursor_Cursor_Four.f 40 s5 a5 e5 = some (v6, s6, a6, e6)) (f7 : cursor_Cursor_Four.f 40 s6 a6 e6 = some (v7, s7, a7, e7)) (f8 : cursor_Cursor_Two.f 40 s7 a7 e7 = some (v8, s8, a8, e8)) (f9 : cursor_Cursor_Two.f 40 s8 a8 e8 = some (v9, s9, a9, e9)) (f10 : cursor_Cursor_Take.f s9 a9 e9 v8 = some (x10, s10, a10, e10)) (f11 : cursor_Cursor_Take.f s10 a10 e10 v9 = some (x11, s11, a11, e11)) (p_v8 : 0 ≤ v8) (q_v8 : v8 ≤ 65535) (p_v9 : 0 ≤ v9) (q_v9 : v9 ≤ 65535) :
    Calls Try.prog 17 #[.string s] w fun e w' => e = .returned (.tuple #[.agg #[.int .u16 0, .int .u16 0, .int .u16 0, .int .u32 0, .int .u32 0, .int .u32 0, .int .u32 0, .string (⟨#[]⟩ : ByteArray), .string (⟨#[]⟩ : ByteArray)], .int .i64 0, .int .i64 e11]) ∧ Below w.heap.size w w' := by
  have F1 := Aside0.mk f1
  have F2 := Aside0.mk f2
  have F3 := Aside0.mk f3
  have F4 := Aside0.mk f4
  have F5 := Aside0.mk f5
  have F6 := Aside0.mk f6
  have F7 := Aside0.mk f7
  have F8 := Aside0.mk f8
  have F9 := Aside0.mk f9
  have F10 := Aside0.mk f10
  have F11 := Aside0.mk f11
  clear f1 f2 f3 f4 f5 f6 f7 f8 f9 f10 f11
  have HZ := Aside0.mk (below_alloc (Below.refl w.heap.size w) (.cells #[.int .u16 0, .int .u16 0, .int .u16 0, .int .u32 0, .int .u32 0, .int .u32 0, .int .u32 0, .string (⟨#[]⟩ : ByteArray), .string (⟨#[]⟩ : ByteArray)] 25))
  have HQZ := Aside0.mk (heap_alloc_new w (.cells #[.int .u16 0, .int .u16 0, .int .u16 0, .int .u32 0, .int .u32 0, .int .u32 0, .int .u32 0, .string (⟨#[]⟩ : ByteArray), .string (⟨#[]⟩ : ByteArray)] 25))
  obtain ⟨gr, hgr⟩ : ∃ g, w.heap.size = g := ⟨_, rfl⟩
  have HGR := Aside0.mk hgr
  have F0 := Aside0.mk (show cursor_Cursor_Take.f s 0 0 (((⟨#[80, 75, 3, 4]⟩ : ByteArray).size : Nat) : Int) = some (got, s0, a0, 0) from F0)
  go_enter Try.func17, Try.ntmps17
  go_upto_region 4 with (go_at_call 28; (with_reducible refine (begin_ok s (⟨#[80, 75, 3, 4]⟩ : ByteArray) got s0 a0 w _ HZ.out F0.out hg).mono ?_); rintro e' w0 ⟨gc, rfl, hi, hb, hb2⟩; have HC0 := Aside0.mk hi; have HB0 := Aside0.mk hb; have HQ0 := Aside0.mk (blk_below HQZ.out hb2); clear hi hb hb2)
  rw [hgr] at HQ0
  clear HZ HQZ
  go_upto_region 5 with (first
    | (go_at_call 29; (with_reducible refine (cursor_Cursor_Two.calls 40 gc s0 a0 0 v1 s1 a1 e1 w _ HC0.out HB0.out F1.out).mono ?_); rintro e' w1 ⟨rfl, hi, hb, hk⟩; have HC1 := Aside0.mk hi; have HB1 := Aside0.mk hb; have HQ1 := Aside0.mk (kp HC0.out HQ0.out (by decide) hk); clear hi hb hk)
    | (go_at_call 29; (with_reducible refine (cursor_Cursor_Two.calls 40 gc s1 a1 e1 v2 s2 a2 e2 w _ HC1.out HB1.out F2.out).mono ?_); rintro e' w2 ⟨rfl, hi, hb, hk⟩; have HC2 := Aside0.mk hi; have HB2 := Aside0.mk hb; have HQ2 := Aside0.mk (kp HC1.out HQ1.out (by decide) hk); clear hi hb hk)
    | (go_at_call 29; (with_reducible refine (cursor_Cursor_Two.calls 40 gc s2 a2 e2 v3 s3 a3 e3 w _ HC2.out HB2.out F3.out).mono ?_); rintro e' w3 ⟨rfl, hi, hb, hk⟩; have HC3 := Aside0.mk hi; have HB3 := Aside0.mk hb; have HQ3 := Aside0.mk (kp HC2.out HQ2.out (by decide) hk); clear hi hb hk)
    | (go_at_call 30; (with_reducible refine (cursor_Cursor_Four.calls 40 gc s3 a3 e3 v4 s4 a4 e4 w _ HC3.out HB3.out F4.out).mono ?_); rintro e' w4 ⟨rfl, hi, hb, hk⟩; have HC4 := Aside0.mk hi; have HB4 := Aside0.mk hb; have HQ4 := Aside0.mk (kp HC3.out HQ3.out (by decide) hk); clear hi hb hk)
    | (go_at_call 30; (with_reducible refine (cursor_Cursor_Four.calls 40 gc s4 a4 e4 v5 s5 a5 e5 w _ HC4.out HB4.out F5.out).mono ?_); rintro e' w5 ⟨rfl, hi, hb, hk⟩; have HC5 := Aside0.mk hi; have HB5 := Aside0.mk hb; have HQ5 := Aside0.mk (kp HC4.out HQ4.out (by decide) hk); clear hi hb hk)
    | (go_at_call 30; (with_reducible refine (cursor_Cursor_Four.calls 40 gc s5 a5 e5 v6 s6 a6 e6 w _ HC5.out HB5.out F6.out).mono ?_); rintro e' w6 ⟨rfl, hi, hb, hk⟩; have HC6 := Aside0.mk hi; have HB6 := Aside0.mk hb; have HQ6 := Aside0.mk (kp HC5.out HQ5.out (by decide) hk); clear hi hb hk)
    | (go_at_call 30; (with_reducible refine (cursor_Cursor_Four.calls 40 gc s6 a6 e6 v7 s7 a7 e7 w _ HC6.out HB6.out F7.out).mono ?_); rintro e' w7 ⟨rfl, hi, hb, hk⟩; have HC7 := Aside0.mk hi; have HB7 := Aside0.mk hb; have HQ7 := Aside0.mk (kp HC6.out HQ6.out (by decide) hk); clear hi hb hk))
  have HBa := Aside0.mk (below_alloc HB7.out (.cells #[.int .u16 v1, .int .u16 v2, .int .u16 v3, .int .u32 v4, .int .u32 v5, .int .u32 v6, .int .u32 v7, .string (⟨#[]⟩ : ByteArray), .string (⟨#[]⟩ : ByteArray)] 25))
  have HCa := Aside0.mk (IsS91.alloc HC7.out (.cells #[.int .u16 v1, .int .u16 v2, .int .u16 v3, .int .u32 v4, .int .u32 v5, .int .u32 v6, .int .u32 v7, .string (⟨#[]⟩ : ByteArray), .string (⟨#[]⟩ : ByteArray)] 25))
  have HQa := Aside0.mk (blk_alloc HQ7.out (.cells #[.int .u16 v1, .int .u16 v2, .int .u16 v3, .int .u32 v4, .int .u32 v5, .int .u32 v6, .int .u32 v7, .string (⟨#[]⟩ : ByteArray), .string (⟨#[]⟩ : ByteArray)] 25))
  have HSa := Aside0.mk (heap_alloc_new w7 (.cells #[.int .u16 v1, .int .u16 v2, .int .u16 v3, .int .u32 v4, .int .u32 v5, .int .u32 v6, .int .u32 v7, .string (⟨#[]⟩ : ByteArray), .string (⟨#[]⟩ : ByteArray)] 25))
  have HNE := Aside0.mk (show gr ≠ w7.heap.size from Nat.ne_of_lt (blk_lt HQ7.out))
  have HGE := Aside0.mk (HB7.out.size)
  generalize w7.alloc (.cells #[.int .u16 v1, .int .u16 v2, .int .u16 v3, .int .u32 v4, .int .u32 v5, .int .u32 v6, .int .u32 v7, .string (⟨#[]⟩ : ByteArray), .string (⟨#[]⟩ : ByteArray)] 25) = wa at HBa HCa HQa HSa ⊢
  generalize w7.heap.size = g7 at HSa HNE HGE ⊢
  have HB7 := HBa; have HC7 := HCa; have HQ7 := HQa; have HS7 := HSa
  clear HBa HCa HQa HSa HC0 HB0 HQ0
  go_upto_region 6 with (first
    | (go_at_call 29; (with_reducible refine (cursor_Cursor_Two.calls 40 gc s7 a7 e7 v8 s8 a8 e8 w _ HC7.out HB7.out F8.out).mono ?_); rintro e' w8 ⟨rfl, hi, hb, hk⟩; have HC8 := Aside0.mk hi; have HB8 := Aside0.mk hb; have HQ8 := Aside0.mk (kp HC7.out HQ7.out (by decide) hk); have HS8 := Aside0.mk (kp HC7.out HS7.out (by decide) hk); clear hi hb hk)
    | (go_at_call 29; (with_reducible refine (cursor_Cursor_Two.calls 40 gc s8 a8 e8 v9 s9 a9 e9 w _ HC8.out HB8.out F9.out).mono ?_); rintro e' w9 ⟨rfl, hi, hb, hk⟩; have HC9 := Aside0.mk hi; have HB9 := Aside0.mk hb; have HQ9 := Aside0.mk (kp HC8.out HQ8.out (by decide) hk); have HS9 := Aside0.mk (kp HC8.out HS8.out (by decide) hk); clear hi hb hk))
  go_upto_region 7 with (first
    | (go_at_call 31; (with_reducible refine (cursor_Cursor_Take.calls gc s9 a9 e9 v8 x10 s10 a10 e10 w _ HC9.out HB9.out F10.out).mono ?_); rintro e' w10 ⟨rfl, hi, hb, hk⟩; have HC10 := Aside0.mk hi; have HB10 := Aside0.mk hb; have HQ10 := Aside0.mk (kp HC9.out HQ9.out (by decide) hk); have HS10 := Aside0.mk (kp HC9.out HS9.out (by decide) hk); clear hi hb hk)
    | (go_at_call 31; (with_reducible refine (cursor_Cursor_Take.calls gc s10 a10 e10 v9 x11 s11 a11 e11 w _ HC10.out HB10.out F11.out).mono ?_); rintro e' w11 ⟨rfl, hi, hb, hk⟩; have HC11 := Aside0.mk hi; have HB11 := Aside0.mk hb; have HQ11 := Aside0.mk (kp HC10.out HQ10.out (by decide) hk); have HS11 := Aside0.mk (kp HC10.out HS10.out (by decide) hk); clear hi hb hk; have c7 := blk_cell HS11.out 7; have z7 := blk_frozen HS11.out 7; have c8 := blk_cell HS11.out 8; have z8 := blk_frozen HS11.out 8))
  have hgc : gc ≠ g7 := IsS91.ne_blk HC11.out HS11.out (by decide)
  have HCb := Aside0.mk (IsS91.far (IsS91.far HC11.out (p := ⟨g7, 7, none⟩) hgc (.string x10)) (p := ⟨g7, 8, none⟩) hgc (.string x11))
  have HBb := Aside0.mk (below_set (below_set HB11.out HGE.out (j := 7) (v := (.string x10))) HGE.out (j := 8) (v := (.string x11)))
  have HQb := Aside0.mk (blk_far (blk_far HQ11.out (p := ⟨g7, 7, none⟩) HNE.out (.string x10)) (p := ⟨g7, 8, none⟩) HNE.out (.string x11))
  have HSb := Aside0.mk (show ((w11.setCell ⟨g7, 7, none⟩ (.string x10)).setCell ⟨g7, 8, none⟩ (.string x11)).heap[g7]? = some (.cells #[.int .u16 v1, .int .u16 v2, .int .u16 v3, .int .u32 v4, .int .u32 v5, .int .u32 v6, .int .u32 v7, .string x10, .string x11] 25 (0, 0)) by simpa using (blk_set (blk_set HS11.out 7 (.string x10)) 8 (.string x11)))
  generalize ((w11.setCell ⟨g7, 7, none⟩ (.string x10)).setCell ⟨g7, 8, none⟩ (.string x11)) = wb11 at HCb HBb HQb HSb ⊢
  clear c7 z7 c8 z8 HC11 HB11 HQ11 HS11 hgc
  have HC11 := HCb; have HB11 := HBb; have HQ11 := HQb; have HS11 := HSb
  clear HCb HBb HQb HSb
  go_wp2_with (first
    | (go_at_call 32; (with_reducible refine (cursor_Cursor_Err.calls gc s11 a11 e11 e11 s11 a11 e11 w _ HC11.out HB11.out rfl).mono ?_); rintro e' wc ⟨rfl, hi, hb, hk⟩; have HCc := Aside0.mk hi; have HBc := Aside0.mk hb; have HQc := Aside0.mk (kp HC11.out HQ11.out (by decide) hk); have HSc := Aside0.mk (kp HC11.out HS11.out (by decide) hk); clear hi hb hk)
    | (go_at_call 32; (with_reducible refine (cursor_Cursor_Err.calls gc s11 a11 e11 e11 s11 a11 e11 w _ HCc.out HBc.out rfl).mono ?_); rintro e' wd ⟨rfl, hi, hb, hk⟩; have HCd := Aside0.mk hi; have HBd := Aside0.mk hb; have HQd := Aside0.mk (kp HCc.out HQc.out (by decide) hk); have HSd := Aside0.mk (kp HCc.out HSc.out (by decide) hk); clear hi hb hk; have r0 := blk_cell HQd.out 0; have z0 := blk_frozen HQd.out 0; have r1 := blk_cell HQd.out 1; have z1 := blk_frozen HQd.out 1; have r2 := blk_cell HQd.out 2; have z2 := blk_frozen HQd.out 2; have r3 := blk_cell HQd.out 3; have z3 := blk_frozen HQd.out 3; have r4 := blk_cell HQd.out 4; have z4 := blk_frozen HQd.out 4; have r5 := blk_cell HQd.out 5; have z5 := blk_frozen HQd.out 5; have r6 := blk_cell HQd.out 6; have z6 := blk_frozen HQd.out 6; have r7 := blk_cell HQd.out 7; have z7 := blk_frozen HQd.out 7; have r8 := blk_cell HQd.out 8; have z8 := blk_frozen HQd.out 8))
  have HQz := Aside0.mk (show (((((((((wd.setCell ⟨gr, 0, none⟩ (.int .u16 0)).setCell ⟨gr, 1, none⟩ (.int .u16 0)).setCell ⟨gr, 2, none⟩ (.int .u16 0)).setCell ⟨gr, 3, none⟩ (.int .u32 0)).setCell ⟨gr, 4, none⟩ (.int .u32 0)).setCell ⟨gr, 5, none⟩ (.int .u32 0)).setCell ⟨gr, 6, none⟩ (.int .u32 0)).setCell ⟨gr, 7, none⟩ (.string (⟨#[]⟩ : ByteArray))).setCell ⟨gr, 8, none⟩ (.string (⟨#[]⟩ : ByteArray))).heap[gr]? = some (.cells #[.int .u16 0, .int .u16 0, .int .u16 0, .int .u32 0, .int .u32 0, .int .u32 0, .int .u32 0, .string (⟨#[]⟩ : ByteArray), .string (⟨#[]⟩ : ByteArray)] 25 (0, 0)) by simpa using (blk_set (blk_set (blk_set (blk_set (blk_set (blk_set (blk_set (blk_set (blk_set HQd.out 0 (.int .u16 0)) 1 (.int .u16 0)) 2 (.int .u16 0)) 3 (.int .u32 0)) 4 (.int .u32 0)) 5 (.int .u32 0)) 6 (.int .u32 0)) 7 (.string (⟨#[]⟩ : ByteArray))) 8 (.string (⟨#[]⟩ : ByteArray))))
  have HBz := Aside0.mk (below_set (below_set (below_set (below_set (below_set (below_set (below_set (below_set (below_set HBd.out (Nat.le_of_eq HGR.out) (j := 0) (v := (.int .u16 0))) (Nat.le_of_eq HGR.out) (j := 1) (v := (.int .u16 0))) (Nat.le_of_eq HGR.out) (j := 2) (v := (.int .u16 0))) (Nat.le_of_eq HGR.out) (j := 3) (v := (.int .u32 0))) (Nat.le_of_eq HGR.out) (j := 4) (v := (.int .u32 0))) (Nat.le_of_eq HGR.out) (j := 5) (v := (.int .u32 0))) (Nat.le_of_eq HGR.out) (j := 6) (v := (.int .u32 0))) (Nat.le_of_eq HGR.out) (j := 7) (v := (.string (⟨#[]⟩ : ByteArray)))) (Nat.le_of_eq HGR.out) (j := 8) (v := (.string (⟨#[]⟩ : ByteArray))))
  generalize (((((((((wd.setCell ⟨gr, 0, none⟩ (.int .u16 0)).setCell ⟨gr, 1, none⟩ (.int .u16 0)).setCell ⟨gr, 2, none⟩ (.int .u16 0)).setCell ⟨gr, 3, none⟩ (.int .u32 0)).setCell ⟨gr, 4, none⟩ (.int .u32 0)).setCell ⟨gr, 5, none⟩ (.int .u32 0)).setCell ⟨gr, 6, none⟩ (.int .u32 0)).setCell ⟨gr, 7, none⟩ (.string (⟨#[]⟩ : ByteArray))).setCell ⟨gr, 8, none⟩ (.string (⟨#[]⟩ : ByteArray))) = wz at HQz HBz ⊢
  have y0 := blk_cell HQz.out 0
  have y1 := blk_cell HQz.out 1
  have y2 := blk_cell HQz.out 2
  have y3 := blk_cell HQz.out 3
  have y4 := blk_cell HQz.out 4
  have y5 := blk_cell HQz.out 5
  have y6 := blk_cell HQz.out 6
  have y7 := blk_cell HQz.out 7
  have y8 := blk_cell HQz.out 8
  simp only [List.getElem?_toArray, List.getElem?_cons_zero, List.getElem?_cons_succ] at y0 y1 y2 y3 y4 y5 y6 y7 y8
  exact bodyPost_ret (v := .tuple #[.agg #[.int .u16 0, .int .u16 0, .int .u16 0, .int .u32 0, .int .u32 0, .int .u32 0, .int .u32 0, .string (⟨#[]⟩ : ByteArray), .string (⟨#[]⟩ : ByteArray)], .int .i64 0, .int .i64 e11]) (by simp [results, Try.results17, go_sem, y0, y1, y2, y3, y4, y5, y6, y7, y8]) rfl ⟨rfl, HBz.out⟩
set_option maxHeartbeats 8000000 in
set_option maxRecDepth 100000 in
theorem local_bad (s got s0 : ByteArray) (a0 e0 : Int) (w : World) (F0 : cursor_Cursor_Take.f s 0 0 4 = some (got, s0, a0, e0)) (he : e0 ≠ 0) :
    Calls Try.prog 17 #[.string s] w fun e w' => e = .returned (.tuple #[.agg #[.int .u16 0, .int .u16 0, .int .u16 0, .int .u32 0, .int .u32 0, .int .u32 0, .int .u32 0, .string (⟨#[]⟩ : ByteArray), .string (⟨#[]⟩ : ByteArray)], .int .i64 0, .int .i64 3]) ∧ Below w.heap.size w w' := by
  have HZ := Aside0.mk (below_alloc (Below.refl w.heap.size w) (.cells #[.int .u16 0, .int .u16 0, .int .u16 0, .int .u32 0, .int .u32 0, .int .u32 0, .int .u32 0, .string (⟨#[]⟩ : ByteArray), .string (⟨#[]⟩ : ByteArray)] 25))
  have HQZ := Aside0.mk (heap_alloc_new w (.cells #[.int .u16 0, .int .u16 0, .int .u16 0, .int .u32 0, .int .u32 0, .int .u32 0, .int .u32 0, .string (⟨#[]⟩ : ByteArray), .string (⟨#[]⟩ : ByteArray)] 25))
  obtain ⟨gr, hgr⟩ : ∃ g, w.heap.size = g := ⟨_, rfl⟩
  have HGR := Aside0.mk hgr
  have F0 := Aside0.mk (show cursor_Cursor_Take.f s 0 0 (((⟨#[80, 75, 3, 4]⟩ : ByteArray).size : Nat) : Int) = some (got, s0, a0, e0) from F0)
  go_enter Try.func17, Try.ntmps17
  go_upto_region 3 with (go_at_call 28; (with_reducible refine (begin_bad s (⟨#[80, 75, 3, 4]⟩ : ByteArray) got s0 a0 e0 _ F0.out he).mono ?_); rintro e' wd ⟨rfl, hb⟩; have HBd := Aside0.mk (below_step HZ.out hb); have HQd := Aside0.mk (blk_below HQZ.out hb); clear hb)
  rw [hgr] at HQd
  have r0 := blk_cell HQd.out 0; have z0 := blk_frozen HQd.out 0; have r1 := blk_cell HQd.out 1; have z1 := blk_frozen HQd.out 1; have r2 := blk_cell HQd.out 2; have z2 := blk_frozen HQd.out 2; have r3 := blk_cell HQd.out 3; have z3 := blk_frozen HQd.out 3; have r4 := blk_cell HQd.out 4; have z4 := blk_frozen HQd.out 4; have r5 := blk_cell HQd.out 5; have z5 := blk_frozen HQd.out 5; have r6 := blk_cell HQd.out 6; have z6 := blk_frozen HQd.out 6; have r7 := blk_cell HQd.out 7; have z7 := blk_frozen HQd.out 7; have r8 := blk_cell HQd.out 8; have z8 := blk_frozen HQd.out 8
  clear HZ HQZ
  go_wp2
  have HQz := Aside0.mk (show (((((((((wd.setCell ⟨gr, 0, none⟩ (.int .u16 0)).setCell ⟨gr, 1, none⟩ (.int .u16 0)).setCell ⟨gr, 2, none⟩ (.int .u16 0)).setCell ⟨gr, 3, none⟩ (.int .u32 0)).setCell ⟨gr, 4, none⟩ (.int .u32 0)).setCell ⟨gr, 5, none⟩ (.int .u32 0)).setCell ⟨gr, 6, none⟩ (.int .u32 0)).setCell ⟨gr, 7, none⟩ (.string (⟨#[]⟩ : ByteArray))).setCell ⟨gr, 8, none⟩ (.string (⟨#[]⟩ : ByteArray))).heap[gr]? = some (.cells #[.int .u16 0, .int .u16 0, .int .u16 0, .int .u32 0, .int .u32 0, .int .u32 0, .int .u32 0, .string (⟨#[]⟩ : ByteArray), .string (⟨#[]⟩ : ByteArray)] 25 (0, 0)) by simpa using (blk_set (blk_set (blk_set (blk_set (blk_set (blk_set (blk_set (blk_set (blk_set HQd.out 0 (.int .u16 0)) 1 (.int .u16 0)) 2 (.int .u16 0)) 3 (.int .u32 0)) 4 (.int .u32 0)) 5 (.int .u32 0)) 6 (.int .u32 0)) 7 (.string (⟨#[]⟩ : ByteArray))) 8 (.string (⟨#[]⟩ : ByteArray))))
  have HBz := Aside0.mk (below_set (below_set (below_set (below_set (below_set (below_set (below_set (below_set (below_set HBd.out (Nat.le_of_eq HGR.out) (j := 0) (v := (.int .u16 0))) (Nat.le_of_eq HGR.out) (j := 1) (v := (.int .u16 0))) (Nat.le_of_eq HGR.out) (j := 2) (v := (.int .u16 0))) (Nat.le_of_eq HGR.out) (j := 3) (v := (.int .u32 0))) (Nat.le_of_eq HGR.out) (j := 4) (v := (.int .u32 0))) (Nat.le_of_eq HGR.out) (j := 5) (v := (.int .u32 0))) (Nat.le_of_eq HGR.out) (j := 6) (v := (.int .u32 0))) (Nat.le_of_eq HGR.out) (j := 7) (v := (.string (⟨#[]⟩ : ByteArray)))) (Nat.le_of_eq HGR.out) (j := 8) (v := (.string (⟨#[]⟩ : ByteArray))))
  generalize (((((((((wd.setCell ⟨gr, 0, none⟩ (.int .u16 0)).setCell ⟨gr, 1, none⟩ (.int .u16 0)).setCell ⟨gr, 2, none⟩ (.int .u16 0)).setCell ⟨gr, 3, none⟩ (.int .u32 0)).setCell ⟨gr, 4, none⟩ (.int .u32 0)).setCell ⟨gr, 5, none⟩ (.int .u32 0)).setCell ⟨gr, 6, none⟩ (.int .u32 0)).setCell ⟨gr, 7, none⟩ (.string (⟨#[]⟩ : ByteArray))).setCell ⟨gr, 8, none⟩ (.string (⟨#[]⟩ : ByteArray))) = wz at HQz HBz ⊢
  have y0 := blk_cell HQz.out 0
  have y1 := blk_cell HQz.out 1
  have y2 := blk_cell HQz.out 2
  have y3 := blk_cell HQz.out 3
  have y4 := blk_cell HQz.out 4
  have y5 := blk_cell HQz.out 5
  have y6 := blk_cell HQz.out 6
  have y7 := blk_cell HQz.out 7
  have y8 := blk_cell HQz.out 8
  simp only [List.getElem?_toArray, List.getElem?_cons_zero, List.getElem?_cons_succ] at y0 y1 y2 y3 y4 y5 y6 y7 y8
  exact bodyPost_ret (v := .tuple #[.agg #[.int .u16 0, .int .u16 0, .int .u16 0, .int .u32 0, .int .u32 0, .int .u32 0, .int .u32 0, .string (⟨#[]⟩ : ByteArray), .string (⟨#[]⟩ : ByteArray)], .int .i64 0, .int .i64 3]) (by simp [results, Try.results17, go_sem, y0, y1, y2, y3, y4, y5, y6, y7, y8]) rfl ⟨rfl, HBz.out⟩
set_option maxHeartbeats 8000000 in
set_option maxRecDepth 100000 in
theorem local_no (s got s0 : ByteArray) (a0 e0 : Int) (w : World) (F0 : cursor_Cursor_Take.f s 0 0 4 = some (got, s0, a0, 0)) (hg : (got.toList == (⟨#[80, 75, 3, 4]⟩ : ByteArray).toList) = false) :
    Calls Try.prog 17 #[.string s] w fun e w' => e = .returned (.tuple #[.agg #[.int .u16 0, .int .u16 0, .int .u16 0, .int .u32 0, .int .u32 0, .int .u32 0, .int .u32 0, .string (⟨#[]⟩ : ByteArray), .string (⟨#[]⟩ : ByteArray)], .int .i64 0, .int .i64 4]) ∧ Below w.heap.size w w' := by
  have HZ := Aside0.mk (below_alloc (Below.refl w.heap.size w) (.cells #[.int .u16 0, .int .u16 0, .int .u16 0, .int .u32 0, .int .u32 0, .int .u32 0, .int .u32 0, .string (⟨#[]⟩ : ByteArray), .string (⟨#[]⟩ : ByteArray)] 25))
  have HQZ := Aside0.mk (heap_alloc_new w (.cells #[.int .u16 0, .int .u16 0, .int .u16 0, .int .u32 0, .int .u32 0, .int .u32 0, .int .u32 0, .string (⟨#[]⟩ : ByteArray), .string (⟨#[]⟩ : ByteArray)] 25))
  obtain ⟨gr, hgr⟩ : ∃ g, w.heap.size = g := ⟨_, rfl⟩
  have HGR := Aside0.mk hgr
  have F0 := Aside0.mk (show cursor_Cursor_Take.f s 0 0 (((⟨#[80, 75, 3, 4]⟩ : ByteArray).size : Nat) : Int) = some (got, s0, a0, 0) from F0)
  go_enter Try.func17, Try.ntmps17
  go_upto_region 3 with (go_at_call 28; (with_reducible refine (begin_no s (⟨#[80, 75, 3, 4]⟩ : ByteArray) got s0 a0 _ F0.out hg).mono ?_); rintro e' wd ⟨rfl, hb⟩; have HBd := Aside0.mk (below_step HZ.out hb); have HQd := Aside0.mk (blk_below HQZ.out hb); clear hb)
  rw [hgr] at HQd
  have r0 := blk_cell HQd.out 0; have z0 := blk_frozen HQd.out 0; have r1 := blk_cell HQd.out 1; have z1 := blk_frozen HQd.out 1; have r2 := blk_cell HQd.out 2; have z2 := blk_frozen HQd.out 2; have r3 := blk_cell HQd.out 3; have z3 := blk_frozen HQd.out 3; have r4 := blk_cell HQd.out 4; have z4 := blk_frozen HQd.out 4; have r5 := blk_cell HQd.out 5; have z5 := blk_frozen HQd.out 5; have r6 := blk_cell HQd.out 6; have z6 := blk_frozen HQd.out 6; have r7 := blk_cell HQd.out 7; have z7 := blk_frozen HQd.out 7; have r8 := blk_cell HQd.out 8; have z8 := blk_frozen HQd.out 8
  clear HZ HQZ
  go_wp2
  have HQz := Aside0.mk (show (((((((((wd.setCell ⟨gr, 0, none⟩ (.int .u16 0)).setCell ⟨gr, 1, none⟩ (.int .u16 0)).setCell ⟨gr, 2, none⟩ (.int .u16 0)).setCell ⟨gr, 3, none⟩ (.int .u32 0)).setCell ⟨gr, 4, none⟩ (.int .u32 0)).setCell ⟨gr, 5, none⟩ (.int .u32 0)).setCell ⟨gr, 6, none⟩ (.int .u32 0)).setCell ⟨gr, 7, none⟩ (.string (⟨#[]⟩ : ByteArray))).setCell ⟨gr, 8, none⟩ (.string (⟨#[]⟩ : ByteArray))).heap[gr]? = some (.cells #[.int .u16 0, .int .u16 0, .int .u16 0, .int .u32 0, .int .u32 0, .int .u32 0, .int .u32 0, .string (⟨#[]⟩ : ByteArray), .string (⟨#[]⟩ : ByteArray)] 25 (0, 0)) by simpa using (blk_set (blk_set (blk_set (blk_set (blk_set (blk_set (blk_set (blk_set (blk_set HQd.out 0 (.int .u16 0)) 1 (.int .u16 0)) 2 (.int .u16 0)) 3 (.int .u32 0)) 4 (.int .u32 0)) 5 (.int .u32 0)) 6 (.int .u32 0)) 7 (.string (⟨#[]⟩ : ByteArray))) 8 (.string (⟨#[]⟩ : ByteArray))))
  have HBz := Aside0.mk (below_set (below_set (below_set (below_set (below_set (below_set (below_set (below_set (below_set HBd.out (Nat.le_of_eq HGR.out) (j := 0) (v := (.int .u16 0))) (Nat.le_of_eq HGR.out) (j := 1) (v := (.int .u16 0))) (Nat.le_of_eq HGR.out) (j := 2) (v := (.int .u16 0))) (Nat.le_of_eq HGR.out) (j := 3) (v := (.int .u32 0))) (Nat.le_of_eq HGR.out) (j := 4) (v := (.int .u32 0))) (Nat.le_of_eq HGR.out) (j := 5) (v := (.int .u32 0))) (Nat.le_of_eq HGR.out) (j := 6) (v := (.int .u32 0))) (Nat.le_of_eq HGR.out) (j := 7) (v := (.string (⟨#[]⟩ : ByteArray)))) (Nat.le_of_eq HGR.out) (j := 8) (v := (.string (⟨#[]⟩ : ByteArray))))
  generalize (((((((((wd.setCell ⟨gr, 0, none⟩ (.int .u16 0)).setCell ⟨gr, 1, none⟩ (.int .u16 0)).setCell ⟨gr, 2, none⟩ (.int .u16 0)).setCell ⟨gr, 3, none⟩ (.int .u32 0)).setCell ⟨gr, 4, none⟩ (.int .u32 0)).setCell ⟨gr, 5, none⟩ (.int .u32 0)).setCell ⟨gr, 6, none⟩ (.int .u32 0)).setCell ⟨gr, 7, none⟩ (.string (⟨#[]⟩ : ByteArray))).setCell ⟨gr, 8, none⟩ (.string (⟨#[]⟩ : ByteArray))) = wz at HQz HBz ⊢
  have y0 := blk_cell HQz.out 0
  have y1 := blk_cell HQz.out 1
  have y2 := blk_cell HQz.out 2
  have y3 := blk_cell HQz.out 3
  have y4 := blk_cell HQz.out 4
  have y5 := blk_cell HQz.out 5
  have y6 := blk_cell HQz.out 6
  have y7 := blk_cell HQz.out 7
  have y8 := blk_cell HQz.out 8
  simp only [List.getElem?_toArray, List.getElem?_cons_zero, List.getElem?_cons_succ] at y0 y1 y2 y3 y4 y5 y6 y7 y8
  exact bodyPost_ret (v := .tuple #[.agg #[.int .u16 0, .int .u16 0, .int .u16 0, .int .u32 0, .int .u32 0, .int .u32 0, .int .u32 0, .string (⟨#[]⟩ : ByteArray), .string (⟨#[]⟩ : ByteArray)], .int .i64 0, .int .i64 4]) (by simp [results, Try.results17, go_sem, y0, y1, y2, y3, y4, y5, y6, y7, y8]) rfl ⟨rfl, HBz.out⟩
theorem two_range {s s' : ByteArray} {a a' e e' v : Int} (h : cursor_Cursor_Two.f 40 s a e = some (v, s', a', e')) : 0 ≤ v ∧ v ≤ 65535 := by
  unfold cursor_Cursor_Two.f at h
  obtain ⟨t, _, h⟩ := Option.bind_eq_some_iff.1 h
  obtain ⟨u, _, h⟩ := Option.bind_eq_some_iff.1 h
  simp only [Option.some.injEq, Prod.mk.injEq] at h
  rw [← h.1, u16_mod]; omega
theorem four_range {s s' : ByteArray} {a a' e e' v : Int} (h : cursor_Cursor_Four.f 40 s a e = some (v, s', a', e')) : 0 ≤ v ∧ v ≤ 4294967295 := by
  unfold cursor_Cursor_Four.f at h
  obtain ⟨t, _, h⟩ := Option.bind_eq_some_iff.1 h
  obtain ⟨u, _, h⟩ := Option.bind_eq_some_iff.1 h
  simp only [Option.some.injEq, Prod.mk.injEq] at h
  rw [← h.1]; omega
def header_ParseLocal.f (s : ByteArray) : Option (Int × Int × Int × Int × Int × Int × Int × ByteArray × ByteArray × Int × Int) :=
  (cursor_Cursor_Take.f s 0 0 4).bind fun t0 => if t0.2.2.2 = 0 then (if (t0.1.toList == (⟨#[80, 75, 3, 4]⟩ : ByteArray).toList) = true then ((cursor_Cursor_Two.f 40 t0.2.1 t0.2.2.1 t0.2.2.2).bind fun t1 => (cursor_Cursor_Two.f 40 t1.2.1 t1.2.2.1 t1.2.2.2).bind fun t2 => (cursor_Cursor_Two.f 40 t2.2.1 t2.2.2.1 t2.2.2.2).bind fun t3 => (cursor_Cursor_Four.f 40 t3.2.1 t3.2.2.1 t3.2.2.2).bind fun t4 => (cursor_Cursor_Four.f 40 t4.2.1 t4.2.2.1 t4.2.2.2).bind fun t5 => (cursor_Cursor_Four.f 40 t5.2.1 t5.2.2.1 t5.2.2.2).bind fun t6 => (cursor_Cursor_Four.f 40 t6.2.1 t6.2.2.1 t6.2.2.2).bind fun t7 => (cursor_Cursor_Two.f 40 t7.2.1 t7.2.2.1 t7.2.2.2).bind fun t8 => (cursor_Cursor_Two.f 40 t8.2.1 t8.2.2.1 t8.2.2.2).bind fun t9 => (cursor_Cursor_Take.f t9.2.1 t9.2.2.1 t9.2.2.2 t8.1).bind fun t10 => (cursor_Cursor_Take.f t10.2.1 t10.2.2.1 t10.2.2.2 t9.1).bind fun t11 => if t11.2.2.2 = 0 then some (t1.1, t2.1, t3.1, t4.1, t5.1, t6.1, t7.1, t10.1, t11.1, t11.2.2.1, 0) else some (0, 0, 0, 0, 0, 0, 0, (⟨#[]⟩ : ByteArray), (⟨#[]⟩ : ByteArray), 0, t11.2.2.2)) else some (0, 0, 0, 0, 0, 0, 0, (⟨#[]⟩ : ByteArray), (⟨#[]⟩ : ByteArray), 0, 4)) else some (0, 0, 0, 0, 0, 0, 0, (⟨#[]⟩ : ByteArray), (⟨#[]⟩ : ByteArray), 0, 3)
theorem header_ParseLocal.calls (s : ByteArray) (r1 : Int) (r2 : Int) (r3 : Int) (r4 : Int) (r5 : Int) (r6 : Int) (r7 : Int) (r8 : ByteArray) (r9 : ByteArray) (r10 : Int) (r11 : Int) (w : World) (h : header_ParseLocal.f s = some (r1, r2, r3, r4, r5, r6, r7, r8, r9, r10, r11)) :
    Calls Try.prog 17 #[.string s] w fun e w' => e = .returned (.tuple #[.agg #[.int .u16 r1, .int .u16 r2, .int .u16 r3, .int .u32 r4, .int .u32 r5, .int .u32 r6, .int .u32 r7, .string r8, .string r9], .int .i64 r10, .int .i64 r11]) ∧ Below w.heap.size w w' := by
  unfold header_ParseLocal.f at h
  obtain ⟨⟨got, s0, a0, e0⟩, f0, h⟩ := Option.bind_eq_some_iff.1 h
  dsimp only at f0 h
  by_cases h0 : e0 = 0
  · subst h0
    rw [if_pos rfl] at h
    cases hg : (got.toList == (⟨#[80, 75, 3, 4]⟩ : ByteArray).toList) with
    | false =>
      rw [hg, if_neg (by decide)] at h
      simp only [Option.some.injEq, Prod.mk.injEq] at h; obtain ⟨rfl, rfl, rfl, rfl, rfl, rfl, rfl, rfl, rfl, rfl, rfl⟩ := h
      exact local_no s got s0 a0 0 w f0 hg
    | true =>
      rw [hg, if_pos rfl] at h
      obtain ⟨⟨v1, s1, a1, e1⟩, f1, h⟩ := Option.bind_eq_some_iff.1 h
      dsimp only at f1 h
      obtain ⟨⟨v2, s2, a2, e2⟩, f2, h⟩ := Option.bind_eq_some_iff.1 h
      dsimp only at f2 h
      obtain ⟨⟨v3, s3, a3, e3⟩, f3, h⟩ := Option.bind_eq_some_iff.1 h
      dsimp only at f3 h
      obtain ⟨⟨v4, s4, a4, e4⟩, f4, h⟩ := Option.bind_eq_some_iff.1 h
      dsimp only at f4 h
      obtain ⟨⟨v5, s5, a5, e5⟩, f5, h⟩ := Option.bind_eq_some_iff.1 h
      dsimp only at f5 h
      obtain ⟨⟨v6, s6, a6, e6⟩, f6, h⟩ := Option.bind_eq_some_iff.1 h
      dsimp only at f6 h
      obtain ⟨⟨v7, s7, a7, e7⟩, f7, h⟩ := Option.bind_eq_some_iff.1 h
      dsimp only at f7 h
      obtain ⟨⟨v8, s8, a8, e8⟩, f8, h⟩ := Option.bind_eq_some_iff.1 h
      dsimp only at f8 h
      obtain ⟨⟨v9, s9, a9, e9⟩, f9, h⟩ := Option.bind_eq_some_iff.1 h
      dsimp only at f9 h
      obtain ⟨⟨x10, s10, a10, e10⟩, f10, h⟩ := Option.bind_eq_some_iff.1 h
      dsimp only at f10 h
      obtain ⟨⟨x11, s11, a11, e11⟩, f11, h⟩ := Option.bind_eq_some_iff.1 h
      dsimp only at f11 h
      by_cases he : e11 = 0
      · rw [if_pos he] at h
        simp only [Option.some.injEq, Prod.mk.injEq] at h; obtain ⟨rfl, rfl, rfl, rfl, rfl, rfl, rfl, rfl, rfl, rfl, rfl⟩ := h
        exact local_ok s got s0 a0 v1 s1 a1 e1 v2 s2 a2 e2 v3 s3 a3 e3 v4 s4 a4 e4 v5 s5 a5 e5 v6 s6 a6 e6 v7 s7 a7 e7 v8 s8 a8 e8 v9 s9 a9 e9 x10 s10 a10 e10 x11 s11 a11 e11 (by simp [he]) w f0 hg f1 f2 f3 f4 f5 f6 f7 f8 f9 f10 f11 (two_range f8).1 (two_range f8).2 (two_range f9).1 (two_range f9).2
      · rw [if_neg he] at h
        simp only [Option.some.injEq, Prod.mk.injEq] at h; obtain ⟨rfl, rfl, rfl, rfl, rfl, rfl, rfl, rfl, rfl, rfl, rfl⟩ := h
        exact local_fail s got s0 a0 v1 s1 a1 e1 v2 s2 a2 e2 v3 s3 a3 e3 v4 s4 a4 e4 v5 s5 a5 e5 v6 s6 a6 e6 v7 s7 a7 e7 v8 s8 a8 e8 v9 s9 a9 e9 x10 s10 a10 e10 x11 s11 a11 e11 (by simp [he]) w f0 hg f1 f2 f3 f4 f5 f6 f7 f8 f9 f10 f11 (two_range f8).1 (two_range f8).2 (two_range f9).1 (two_range f9).2
  · rw [if_neg h0] at h
    simp only [Option.some.injEq, Prod.mk.injEq] at h; obtain ⟨rfl, rfl, rfl, rfl, rfl, rfl, rfl, rfl, rfl, rfl, rfl⟩ := h
    exact local_bad s got s0 a0 e0 w f0 h0
end Go.Proofs.Ytnjfddmajiihjaa.P
