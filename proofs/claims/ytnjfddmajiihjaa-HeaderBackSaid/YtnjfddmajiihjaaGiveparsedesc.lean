import Derived.Test.YtnjfddmajiihjaaGiveparselocal
import Derived.Test.YtnjfddmajiihjaaPx10
import Derived.Test.YtnjfddmajiihjaaPx15
import Derived.Test.YtnjfddmajiihjaaPx9
namespace Go.Proofs.Ytnjfddmajiihjaa.P
set_option linter.unusedVariables false
set_option linter.unusedSimpArgs false
open Go Go.RowKit Go.Proofs.Ytnjfddmajiihjaa.B Go.Proofs.Ytnjfddmajiihjaa.Hp Go.Proofs.YtnjfddmajiihjaaW.PrintWords Go.Proofs.YtnjfddmajiihjaaW.PrintLast Go.Proofs.YtnjfddmajiihjaaW.PrintMore
set_option maxHeartbeats 8000000 in
set_option maxRecDepth 100000 in
theorem descw_ok (s got s0 : ByteArray) (a0 : Int) (v1 : Int) (s1 : ByteArray) (a1 e1 : Int) (v2 : Int) (s2 : ByteArray) (a2 e2 : Int) (v3 : Int) (s3 : ByteArray) (a3 e3 : Int) (he : (e3 != 0) = false) (w : World) (F0 : cursor_Cursor_Take.f s 0 0 4 = some (got, s0, a0, 0)) (hg : (got.toList == (⟨#[80, 75, 7, 8]⟩ : ByteArray).toList) = true) (f1 : cursor_Cursor_Four.f 40 s0 a0 0 = some (v1, s1, a1, e1)) (f2 : cursor_Cursor_Eight.f 40 s1 a1 e1 = some (v2, s2, a2, e2)) (f3 : cursor_Cursor_Eight.f 40 s2 a2 e2 = some (v3, s3, a3, e3)) :
    Calls Try.prog 21 #[.string s, .bool true] w fun e w' => e = .returned (.tuple #[.agg #[.int .u32 v1, .int .u64 v2, .int .u64 v3], .int .i64 a3, .int .i64 0]) ∧ Below w.heap.size w w' := by
  have F1 := Aside0.mk f1
  have F2 := Aside0.mk f2
  have F3 := Aside0.mk f3
  clear f1 f2 f3
  have HZ := Aside0.mk (below_alloc (Below.refl w.heap.size w) (.cells #[.int .u32 0, .int .u64 0, .int .u64 0] 30))
  have HQZ := Aside0.mk (heap_alloc_new w (.cells #[.int .u32 0, .int .u64 0, .int .u64 0] 30))
  obtain ⟨gr, hgr⟩ : ∃ g, w.heap.size = g := ⟨_, rfl⟩
  have HGR := Aside0.mk hgr
  have F0 := Aside0.mk (show cursor_Cursor_Take.f s 0 0 (((⟨#[80, 75, 7, 8]⟩ : ByteArray).size : Nat) : Int) = some (got, s0, a0, 0) from F0)
  go_enter Try.func21, Try.ntmps21
  go_upto_region 4 with (go_at_call 28; (with_reducible refine (begin_ok s (⟨#[80, 75, 7, 8]⟩ : ByteArray) got s0 a0 w _ HZ.out F0.out hg).mono ?_); rintro e' w0 ⟨gc, rfl, hi, hb, hb2⟩; have HC0 := Aside0.mk hi; have HB0 := Aside0.mk hb; have HQ0 := Aside0.mk (blk_below HQZ.out hb2); clear hi hb hb2)
  rw [hgr] at HQ0
  clear HZ HQZ
  go_upto_region 5 with (first
    | (go_at_call 30; (with_reducible refine (cursor_Cursor_Four.calls 40 gc s0 a0 0 v1 s1 a1 e1 w _ HC0.out HB0.out F1.out).mono ?_); rintro e' w1 ⟨rfl, hi, hb, hk⟩; have HC1 := Aside0.mk hi; have HB1 := Aside0.mk hb; have HQ1 := Aside0.mk (kp HC0.out HQ0.out (by decide) hk); clear hi hb hk))
  have HBa := Aside0.mk (below_alloc HB1.out (.cells #[.int .u32 v1, .int .u64 0, .int .u64 0] 30))
  have HCa := Aside0.mk (IsS91.alloc HC1.out (.cells #[.int .u32 v1, .int .u64 0, .int .u64 0] 30))
  have HQa := Aside0.mk (blk_alloc HQ1.out (.cells #[.int .u32 v1, .int .u64 0, .int .u64 0] 30))
  have HSa := Aside0.mk (heap_alloc_new w1 (.cells #[.int .u32 v1, .int .u64 0, .int .u64 0] 30))
  have HNE := Aside0.mk (show gr ≠ w1.heap.size from Nat.ne_of_lt (blk_lt HQ1.out))
  have HGE := Aside0.mk (HB1.out.size)
  generalize w1.alloc (.cells #[.int .u32 v1, .int .u64 0, .int .u64 0] 30) = wa at HBa HCa HQa HSa ⊢
  generalize w1.heap.size = g7 at HSa HNE HGE ⊢
  clear HB1 HC1 HQ1
  have HB1 := HBa; have HC1 := HCa; have HQ1 := HQa; have HS1 := HSa
  clear HBa HCa HQa HSa HC0 HB0 HQ0
  go_upto_region 6 with (fail)
  go_upto_region 8 with (first
    | (go_at_call 37; (with_reducible refine (cursor_Cursor_Eight.calls 40 gc s1 a1 e1 v2 s2 a2 e2 w _ HC1.out HB1.out F2.out).mono ?_); rintro e' w2 ⟨rfl, hi, hb, hk⟩; have HC2 := Aside0.mk hi; have HB2 := Aside0.mk hb; have HQ2 := Aside0.mk (kp HC1.out HQ1.out (by decide) hk); have HS2 := Aside0.mk (kp HC1.out HS1.out (by decide) hk); clear hi hb hk)
    | (go_at_call 37; (with_reducible refine (cursor_Cursor_Eight.calls 40 gc s2 a2 e2 v3 s3 a3 e3 w _ HC2.out HB2.out F3.out).mono ?_); rintro e' w3 ⟨rfl, hi, hb, hk⟩; have HC3 := Aside0.mk hi; have HB3 := Aside0.mk hb; have HQ3 := Aside0.mk (kp HC2.out HQ2.out (by decide) hk); have HS3 := Aside0.mk (kp HC2.out HS2.out (by decide) hk); clear hi hb hk; have c1 := blk_cell HS3.out 1; have z1 := blk_frozen HS3.out 1; have c2 := blk_cell HS3.out 2; have z2 := blk_frozen HS3.out 2))
  have hgc : gc ≠ g7 := IsS91.ne_blk HC3.out HS3.out (by decide)
  have HCb := Aside0.mk (IsS91.far (IsS91.far HC3.out (p := ⟨g7, 1, none⟩) hgc (.int .u64 v2)) (p := ⟨g7, 2, none⟩) hgc (.int .u64 v3))
  have HBb := Aside0.mk (below_set (below_set HB3.out HGE.out (j := 1) (v := (.int .u64 v2))) HGE.out (j := 2) (v := (.int .u64 v3)))
  have HQb := Aside0.mk (blk_far (blk_far HQ3.out (p := ⟨g7, 1, none⟩) HNE.out (.int .u64 v2)) (p := ⟨g7, 2, none⟩) HNE.out (.int .u64 v3))
  have HSb := Aside0.mk (show ((w3.setCell ⟨g7, 1, none⟩ (.int .u64 v2)).setCell ⟨g7, 2, none⟩ (.int .u64 v3)).heap[g7]? = some (.cells #[.int .u32 v1, .int .u64 v2, .int .u64 v3] 30 (0, 0)) by simpa using (blk_set (blk_set HS3.out 1 (.int .u64 v2)) 2 (.int .u64 v3)))
  generalize ((w3.setCell ⟨g7, 1, none⟩ (.int .u64 v2)).setCell ⟨g7, 2, none⟩ (.int .u64 v3)) = wb3 at HCb HBb HQb HSb ⊢
  clear c1 z1 c2 z2 HC3 HB3 HQ3 HS3 hgc
  have HC3 := HCb; have HB3 := HBb; have HQ3 := HQb; have HS3 := HSb
  clear HCb HBb HQb HSb
  go_upto_region 10 with (go_at_call 32; (with_reducible refine (cursor_Cursor_Err.calls gc s3 a3 e3 e3 s3 a3 e3 w _ HC3.out HB3.out rfl).mono ?_); rintro e' wc ⟨rfl, hi, hb, hk⟩; have HCc := Aside0.mk hi; have HBc := Aside0.mk hb; have HQc := Aside0.mk (kp HC3.out HQ3.out (by decide) hk); have HSc := Aside0.mk (kp HC3.out HS3.out (by decide) hk); clear hi hb hk)
  refine start_ (n := 6) (S := fun w' => w'.cell? ⟨g7, 0, none⟩ = some (.int .u32 v1) ∧ w'.cell? ⟨g7, 1, none⟩ = some (.int .u64 v2) ∧ w'.cell? ⟨g7, 2, none⟩ = some (.int .u64 v3)) (ds := [3]) #[false, false, false, false, false, false] (by as_aux_lemma => kernel_rfl) rfl rfl ⟨(blk_cell HSc.out 0), (blk_cell HSc.out 1), (blk_cell HSc.out 2)⟩ (fun hHeld => ?_)
  refine pure_ (i := 1) (N := some 44) (v := ?_) (a' := ?_) #[false, true, false, false, false, false] rfl rfl (by as_aux_lemma => kernel_rfl) (fun _ _ _ h => h) (Or.inl ⟨by rfl, ?_⟩) ?_ ?_
  rotate_left
  · intro w'
    go_simp
    with_reducible rfl
  rotate_left
  · simp only [Act.put, List.setIfInBounds_toArray, List.set_cons_zero, List.set_cons_succ, i64_w, i32_w]
    rfl
  refine take_ (i := 0) (N := some 43) (v := ?_) (a' := ?_) #[true, true, false, false, false, false] rfl rfl (by as_aux_lemma => kernel_rfl) (fun _ _ _ h => h) (Or.inl ⟨by rfl, ?_⟩) hHeld ?_ ?_
  rotate_left
  · rintro w' ⟨s0, s1, s2⟩
    go_simp
    with_reducible rfl
  rotate_left
  · simp only [Act.put, List.setIfInBounds_toArray, List.set_cons_zero, List.set_cons_succ, i64_w, i32_w]
    rfl
  refine one_ (i := 2) (N := some 45) #[true, true, true, false, false, false] rfl rfl (by as_aux_lemma => kernel_rfl) (by decide) (fun K hK => ?_)
  refine goes_ Try.func33 (by as_aux_lemma => kernel_rfl) rfl #[.pointer (some ⟨gc, 0, none⟩)] (by rfl) rfl rfl (by simp only [List.map_toArray, List.map_cons, List.map_nil]; rfl) ?_
  with_reducible refine (cursor_Cursor_At.calls gc s3 a3 e3 a3 s3 a3 e3 w _ (IsS91.drew HCc.out) (below_drew1 HBc.out) rfl).mono ?_
  rintro e' wd ⟨rfl, hi, hb, hk⟩
  refine ⟨_, rfl, ?_⟩
  have HCd := Aside0.mk hi; have HBd := Aside0.mk hb; have HQd := Aside0.mk (kp (IsS91.drew HCc.out) (blk_drew HQc.out) (by decide) hk); have HSd := Aside0.mk (kp (IsS91.drew HCc.out) (blk_drew HSc.out) (by decide) hk); clear hi hb hk
  refine hK.out _ _ ⟨(blk_cell HSd.out 0), (blk_cell HSd.out 1), (blk_cell HSd.out 2)⟩ (fun hHeld => ?_)
  clear hK K
  refine norm_ (a' := ?_) ?_ ?_
  rotate_left
  · show Act.put _ (some 45) _ = _
    simp only [Act.put, List.setIfInBounds_toArray, List.set_cons_zero, List.set_cons_succ, i64_w, i32_w]
    rfl
  refine last_ (i := 3) (N := none) #[true, true, true, true, false, false] rfl rfl (by as_aux_lemma => kernel_rfl) (by decide) (fun K hK => ?_)
  have r0 := blk_cell HQd.out 0; have z0 := blk_frozen HQd.out 0; have r1 := blk_cell HQd.out 1; have z1 := blk_frozen HQd.out 1; have r2 := blk_cell HQd.out 2; have z2 := blk_frozen HQd.out 2
  refine skip_ (w1 := ?_) (by rfl) rfl ?_ ?_
  rotate_left
  · go_simp
    rfl
  refine hK.out _ _ ?_
  clear hK K
  refine pure_ (i := 4) (N := some 5) (v := ?_) (a' := ?_) #[true, true, true, true, true, false] rfl rfl (by as_aux_lemma => kernel_rfl) (fun _ _ _ h => h) (Or.inl ⟨by rfl, ?_⟩) ?_ ?_
  rotate_left
  · intro w'
    go_simp
    with_reducible rfl
  rotate_left
  · simp only [Act.put, List.setIfInBounds_toArray, List.set_cons_zero, List.set_cons_succ, i64_w, i32_w]
    rfl
  refine pure_ (i := 5) (N := some 6) (v := ?_) (a' := ?_) #[true, true, true, true, true, true] rfl rfl (by as_aux_lemma => kernel_rfl) (fun _ _ _ h => h) (Or.inl ⟨by rfl, ?_⟩) ?_ ?_
  rotate_left
  · intro w'
    go_simp
    with_reducible rfl
  rotate_left
  · simp only [Act.put, List.setIfInBounds_toArray, List.set_cons_zero, List.set_cons_succ, i64_w, i32_w]
    rfl
  refine done_ (by as_aux_lemma => kernel_rfl) ?_
  go_wp2
  have HQz := Aside0.mk (show (((wd.setCell ⟨gr, 0, none⟩ (.int .u32 v1)).setCell ⟨gr, 1, none⟩ (.int .u64 v2)).setCell ⟨gr, 2, none⟩ (.int .u64 v3)).heap[gr]? = some (.cells #[.int .u32 v1, .int .u64 v2, .int .u64 v3] 30 (0, 0)) by simpa using (blk_set (blk_set (blk_set HQd.out 0 (.int .u32 v1)) 1 (.int .u64 v2)) 2 (.int .u64 v3)))
  have HBz := Aside0.mk (below_set (below_set (below_set HBd.out (Nat.le_of_eq HGR.out) (j := 0) (v := (.int .u32 v1))) (Nat.le_of_eq HGR.out) (j := 1) (v := (.int .u64 v2))) (Nat.le_of_eq HGR.out) (j := 2) (v := (.int .u64 v3)))
  generalize (((wd.setCell ⟨gr, 0, none⟩ (.int .u32 v1)).setCell ⟨gr, 1, none⟩ (.int .u64 v2)).setCell ⟨gr, 2, none⟩ (.int .u64 v3)) = wz at HQz HBz ⊢
  have y0 := blk_cell HQz.out 0
  have y1 := blk_cell HQz.out 1
  have y2 := blk_cell HQz.out 2
  simp only [List.getElem?_toArray, List.getElem?_cons_zero, List.getElem?_cons_succ] at y0 y1 y2
  exact bodyPost_ret (v := .tuple #[.agg #[.int .u32 v1, .int .u64 v2, .int .u64 v3], .int .i64 a3, .int .i64 0]) (by simp [results, Try.results21, go_sem, y0, y1, y2]) rfl ⟨rfl, HBz.out⟩
set_option maxHeartbeats 8000000 in
set_option maxRecDepth 100000 in
theorem descw_fail (s got s0 : ByteArray) (a0 : Int) (v1 : Int) (s1 : ByteArray) (a1 e1 : Int) (v2 : Int) (s2 : ByteArray) (a2 e2 : Int) (v3 : Int) (s3 : ByteArray) (a3 e3 : Int) (he : (e3 != 0) = true) (w : World) (F0 : cursor_Cursor_Take.f s 0 0 4 = some (got, s0, a0, 0)) (hg : (got.toList == (⟨#[80, 75, 7, 8]⟩ : ByteArray).toList) = true) (f1 : cursor_Cursor_Four.f 40 s0 a0 0 = some (v1, s1, a1, e1)) (f2 : cursor_Cursor_Eight.f 40 s1 a1 e1 = some (v2, s2, a2, e2)) (f3 : cursor_Cursor_Eight.f 40 s2 a2 e2 = some (v3, s3, a3, e3)) :
    Calls Try.prog 21 #[.string s, .bool true] w fun e w' => e = .returned (.tuple #[.agg #[.int .u32 0, .int .u64 0, .int .u64 0], .int .i64 0, .int .i64 e3]) ∧ Below w.heap.size w w' := by
  have F1 := Aside0.mk f1
  have F2 := Aside0.mk f2
  have F3 := Aside0.mk f3
  clear f1 f2 f3
  have HZ := Aside0.mk (below_alloc (Below.refl w.heap.size w) (.cells #[.int .u32 0, .int .u64 0, .int .u64 0] 30))
  have HQZ := Aside0.mk (heap_alloc_new w (.cells #[.int .u32 0, .int .u64 0, .int .u64 0] 30))
  obtain ⟨gr, hgr⟩ : ∃ g, w.heap.size = g := ⟨_, rfl⟩
  have HGR := Aside0.mk hgr
  have F0 := Aside0.mk (show cursor_Cursor_Take.f s 0 0 (((⟨#[80, 75, 7, 8]⟩ : ByteArray).size : Nat) : Int) = some (got, s0, a0, 0) from F0)
  go_enter Try.func21, Try.ntmps21
  go_upto_region 4 with (go_at_call 28; (with_reducible refine (begin_ok s (⟨#[80, 75, 7, 8]⟩ : ByteArray) got s0 a0 w _ HZ.out F0.out hg).mono ?_); rintro e' w0 ⟨gc, rfl, hi, hb, hb2⟩; have HC0 := Aside0.mk hi; have HB0 := Aside0.mk hb; have HQ0 := Aside0.mk (blk_below HQZ.out hb2); clear hi hb hb2)
  rw [hgr] at HQ0
  clear HZ HQZ
  go_upto_region 5 with (first
    | (go_at_call 30; (with_reducible refine (cursor_Cursor_Four.calls 40 gc s0 a0 0 v1 s1 a1 e1 w _ HC0.out HB0.out F1.out).mono ?_); rintro e' w1 ⟨rfl, hi, hb, hk⟩; have HC1 := Aside0.mk hi; have HB1 := Aside0.mk hb; have HQ1 := Aside0.mk (kp HC0.out HQ0.out (by decide) hk); clear hi hb hk))
  have HBa := Aside0.mk (below_alloc HB1.out (.cells #[.int .u32 v1, .int .u64 0, .int .u64 0] 30))
  have HCa := Aside0.mk (IsS91.alloc HC1.out (.cells #[.int .u32 v1, .int .u64 0, .int .u64 0] 30))
  have HQa := Aside0.mk (blk_alloc HQ1.out (.cells #[.int .u32 v1, .int .u64 0, .int .u64 0] 30))
  have HSa := Aside0.mk (heap_alloc_new w1 (.cells #[.int .u32 v1, .int .u64 0, .int .u64 0] 30))
  have HNE := Aside0.mk (show gr ≠ w1.heap.size from Nat.ne_of_lt (blk_lt HQ1.out))
  have HGE := Aside0.mk (HB1.out.size)
  generalize w1.alloc (.cells #[.int .u32 v1, .int .u64 0, .int .u64 0] 30) = wa at HBa HCa HQa HSa ⊢
  generalize w1.heap.size = g7 at HSa HNE HGE ⊢
  clear HB1 HC1 HQ1
  have HB1 := HBa; have HC1 := HCa; have HQ1 := HQa; have HS1 := HSa
  clear HBa HCa HQa HSa HC0 HB0 HQ0
  go_upto_region 6 with (fail)
  go_upto_region 8 with (first
    | (go_at_call 37; (with_reducible refine (cursor_Cursor_Eight.calls 40 gc s1 a1 e1 v2 s2 a2 e2 w _ HC1.out HB1.out F2.out).mono ?_); rintro e' w2 ⟨rfl, hi, hb, hk⟩; have HC2 := Aside0.mk hi; have HB2 := Aside0.mk hb; have HQ2 := Aside0.mk (kp HC1.out HQ1.out (by decide) hk); have HS2 := Aside0.mk (kp HC1.out HS1.out (by decide) hk); clear hi hb hk)
    | (go_at_call 37; (with_reducible refine (cursor_Cursor_Eight.calls 40 gc s2 a2 e2 v3 s3 a3 e3 w _ HC2.out HB2.out F3.out).mono ?_); rintro e' w3 ⟨rfl, hi, hb, hk⟩; have HC3 := Aside0.mk hi; have HB3 := Aside0.mk hb; have HQ3 := Aside0.mk (kp HC2.out HQ2.out (by decide) hk); have HS3 := Aside0.mk (kp HC2.out HS2.out (by decide) hk); clear hi hb hk; have c1 := blk_cell HS3.out 1; have z1 := blk_frozen HS3.out 1; have c2 := blk_cell HS3.out 2; have z2 := blk_frozen HS3.out 2))
  have hgc : gc ≠ g7 := IsS91.ne_blk HC3.out HS3.out (by decide)
  have HCb := Aside0.mk (IsS91.far (IsS91.far HC3.out (p := ⟨g7, 1, none⟩) hgc (.int .u64 v2)) (p := ⟨g7, 2, none⟩) hgc (.int .u64 v3))
  have HBb := Aside0.mk (below_set (below_set HB3.out HGE.out (j := 1) (v := (.int .u64 v2))) HGE.out (j := 2) (v := (.int .u64 v3)))
  have HQb := Aside0.mk (blk_far (blk_far HQ3.out (p := ⟨g7, 1, none⟩) HNE.out (.int .u64 v2)) (p := ⟨g7, 2, none⟩) HNE.out (.int .u64 v3))
  have HSb := Aside0.mk (show ((w3.setCell ⟨g7, 1, none⟩ (.int .u64 v2)).setCell ⟨g7, 2, none⟩ (.int .u64 v3)).heap[g7]? = some (.cells #[.int .u32 v1, .int .u64 v2, .int .u64 v3] 30 (0, 0)) by simpa using (blk_set (blk_set HS3.out 1 (.int .u64 v2)) 2 (.int .u64 v3)))
  generalize ((w3.setCell ⟨g7, 1, none⟩ (.int .u64 v2)).setCell ⟨g7, 2, none⟩ (.int .u64 v3)) = wb3 at HCb HBb HQb HSb ⊢
  clear c1 z1 c2 z2 HC3 HB3 HQ3 HS3 hgc
  have HC3 := HCb; have HB3 := HBb; have HQ3 := HQb; have HS3 := HSb
  clear HCb HBb HQb HSb
  go_wp2_with (first
    | (go_at_call 32; (with_reducible refine (cursor_Cursor_Err.calls gc s3 a3 e3 e3 s3 a3 e3 w _ HC3.out HB3.out rfl).mono ?_); rintro e' wc ⟨rfl, hi, hb, hk⟩; have HCc := Aside0.mk hi; have HBc := Aside0.mk hb; have HQc := Aside0.mk (kp HC3.out HQ3.out (by decide) hk); have HSc := Aside0.mk (kp HC3.out HS3.out (by decide) hk); clear hi hb hk)
    | (go_at_call 32; (with_reducible refine (cursor_Cursor_Err.calls gc s3 a3 e3 e3 s3 a3 e3 w _ HCc.out HBc.out rfl).mono ?_); rintro e' wd ⟨rfl, hi, hb, hk⟩; have HCd := Aside0.mk hi; have HBd := Aside0.mk hb; have HQd := Aside0.mk (kp HCc.out HQc.out (by decide) hk); have HSd := Aside0.mk (kp HCc.out HSc.out (by decide) hk); clear hi hb hk; have r0 := blk_cell HQd.out 0; have z0 := blk_frozen HQd.out 0; have r1 := blk_cell HQd.out 1; have z1 := blk_frozen HQd.out 1; have r2 := blk_cell HQd.out 2; have z2 := blk_frozen HQd.out 2))
  have HQz := Aside0.mk (show (((wd.setCell ⟨gr, 0, none⟩ (.int .u32 0)).setCell ⟨gr, 1, none⟩ (.int .u64 0)).setCell ⟨gr, 2, none⟩ (.int .u64 0)).heap[gr]? = some (.cells #[.int .u32 0, .int .u64 0, .int .u64 0] 30 (0, 0)) by simpa using (blk_set (blk_set (blk_set HQd.out 0 (.int .u32 0)) 1 (.int .u64 0)) 2 (.int .u64 0)))
  have HBz := Aside0.mk (below_set (below_set (below_set HBd.out (Nat.le_of_eq HGR.out) (j := 0) (v := (.int .u32 0))) (Nat.le_of_eq HGR.out) (j := 1) (v := (.int .u64 0))) (Nat.le_of_eq HGR.out) (j := 2) (v := (.int .u64 0)))
  generalize (((wd.setCell ⟨gr, 0, none⟩ (.int .u32 0)).setCell ⟨gr, 1, none⟩ (.int .u64 0)).setCell ⟨gr, 2, none⟩ (.int .u64 0)) = wz at HQz HBz ⊢
  have y0 := blk_cell HQz.out 0
  have y1 := blk_cell HQz.out 1
  have y2 := blk_cell HQz.out 2
  simp only [List.getElem?_toArray, List.getElem?_cons_zero, List.getElem?_cons_succ] at y0 y1 y2
  exact bodyPost_ret (v := .tuple #[.agg #[.int .u32 0, .int .u64 0, .int .u64 0], .int .i64 0, .int .i64 e3]) (by simp [results, Try.results21, go_sem, y0, y1, y2]) rfl ⟨rfl, HBz.out⟩
set_option maxHeartbeats 8000000 in
set_option maxRecDepth 100000 in
theorem descw_bad (s got s0 : ByteArray) (a0 e0 : Int) (w : World) (F0 : cursor_Cursor_Take.f s 0 0 4 = some (got, s0, a0, e0)) (he : e0 ≠ 0) (wide : Bool) :
    Calls Try.prog 21 #[.string s, .bool wide] w fun e w' => e = .returned (.tuple #[.agg #[.int .u32 0, .int .u64 0, .int .u64 0], .int .i64 0, .int .i64 3]) ∧ Below w.heap.size w w' := by
  have HZ := Aside0.mk (below_alloc (Below.refl w.heap.size w) (.cells #[.int .u32 0, .int .u64 0, .int .u64 0] 30))
  have HQZ := Aside0.mk (heap_alloc_new w (.cells #[.int .u32 0, .int .u64 0, .int .u64 0] 30))
  obtain ⟨gr, hgr⟩ : ∃ g, w.heap.size = g := ⟨_, rfl⟩
  have HGR := Aside0.mk hgr
  have F0 := Aside0.mk (show cursor_Cursor_Take.f s 0 0 (((⟨#[80, 75, 7, 8]⟩ : ByteArray).size : Nat) : Int) = some (got, s0, a0, e0) from F0)
  go_enter Try.func21, Try.ntmps21
  go_upto_region 3 with (go_at_call 28; (with_reducible refine (begin_bad s (⟨#[80, 75, 7, 8]⟩ : ByteArray) got s0 a0 e0 _ F0.out he).mono ?_); rintro e' wd ⟨rfl, hb⟩; have HBd := Aside0.mk (below_step HZ.out hb); have HQd := Aside0.mk (blk_below HQZ.out hb); clear hb)
  rw [hgr] at HQd
  have r0 := blk_cell HQd.out 0; have z0 := blk_frozen HQd.out 0; have r1 := blk_cell HQd.out 1; have z1 := blk_frozen HQd.out 1; have r2 := blk_cell HQd.out 2; have z2 := blk_frozen HQd.out 2
  clear HZ HQZ
  go_wp2
  have HQz := Aside0.mk (show (((wd.setCell ⟨gr, 0, none⟩ (.int .u32 0)).setCell ⟨gr, 1, none⟩ (.int .u64 0)).setCell ⟨gr, 2, none⟩ (.int .u64 0)).heap[gr]? = some (.cells #[.int .u32 0, .int .u64 0, .int .u64 0] 30 (0, 0)) by simpa using (blk_set (blk_set (blk_set HQd.out 0 (.int .u32 0)) 1 (.int .u64 0)) 2 (.int .u64 0)))
  have HBz := Aside0.mk (below_set (below_set (below_set HBd.out (Nat.le_of_eq HGR.out) (j := 0) (v := (.int .u32 0))) (Nat.le_of_eq HGR.out) (j := 1) (v := (.int .u64 0))) (Nat.le_of_eq HGR.out) (j := 2) (v := (.int .u64 0)))
  generalize (((wd.setCell ⟨gr, 0, none⟩ (.int .u32 0)).setCell ⟨gr, 1, none⟩ (.int .u64 0)).setCell ⟨gr, 2, none⟩ (.int .u64 0)) = wz at HQz HBz ⊢
  have y0 := blk_cell HQz.out 0
  have y1 := blk_cell HQz.out 1
  have y2 := blk_cell HQz.out 2
  simp only [List.getElem?_toArray, List.getElem?_cons_zero, List.getElem?_cons_succ] at y0 y1 y2
  exact bodyPost_ret (v := .tuple #[.agg #[.int .u32 0, .int .u64 0, .int .u64 0], .int .i64 0, .int .i64 3]) (by simp [results, Try.results21, go_sem, y0, y1, y2]) rfl ⟨rfl, HBz.out⟩
set_option maxHeartbeats 8000000 in
set_option maxRecDepth 100000 in
theorem descw_no (s got s0 : ByteArray) (a0 e0 : Int) (w : World) (F0 : cursor_Cursor_Take.f s 0 0 4 = some (got, s0, a0, 0)) (hg : (got.toList == (⟨#[80, 75, 7, 8]⟩ : ByteArray).toList) = false) (wide : Bool) :
    Calls Try.prog 21 #[.string s, .bool wide] w fun e w' => e = .returned (.tuple #[.agg #[.int .u32 0, .int .u64 0, .int .u64 0], .int .i64 0, .int .i64 4]) ∧ Below w.heap.size w w' := by
  have HZ := Aside0.mk (below_alloc (Below.refl w.heap.size w) (.cells #[.int .u32 0, .int .u64 0, .int .u64 0] 30))
  have HQZ := Aside0.mk (heap_alloc_new w (.cells #[.int .u32 0, .int .u64 0, .int .u64 0] 30))
  obtain ⟨gr, hgr⟩ : ∃ g, w.heap.size = g := ⟨_, rfl⟩
  have HGR := Aside0.mk hgr
  have F0 := Aside0.mk (show cursor_Cursor_Take.f s 0 0 (((⟨#[80, 75, 7, 8]⟩ : ByteArray).size : Nat) : Int) = some (got, s0, a0, 0) from F0)
  go_enter Try.func21, Try.ntmps21
  go_upto_region 3 with (go_at_call 28; (with_reducible refine (begin_no s (⟨#[80, 75, 7, 8]⟩ : ByteArray) got s0 a0 _ F0.out hg).mono ?_); rintro e' wd ⟨rfl, hb⟩; have HBd := Aside0.mk (below_step HZ.out hb); have HQd := Aside0.mk (blk_below HQZ.out hb); clear hb)
  rw [hgr] at HQd
  have r0 := blk_cell HQd.out 0; have z0 := blk_frozen HQd.out 0; have r1 := blk_cell HQd.out 1; have z1 := blk_frozen HQd.out 1; have r2 := blk_cell HQd.out 2; have z2 := blk_frozen HQd.out 2
  clear HZ HQZ
  go_wp2
  have HQz := Aside0.mk (show (((wd.setCell ⟨gr, 0, none⟩ (.int .u32 0)).setCell ⟨gr, 1, none⟩ (.int .u64 0)).setCell ⟨gr, 2, none⟩ (.int .u64 0)).heap[gr]? = some (.cells #[.int .u32 0, .int .u64 0, .int .u64 0] 30 (0, 0)) by simpa using (blk_set (blk_set (blk_set HQd.out 0 (.int .u32 0)) 1 (.int .u64 0)) 2 (.int .u64 0)))
  have HBz := Aside0.mk (below_set (below_set (below_set HBd.out (Nat.le_of_eq HGR.out) (j := 0) (v := (.int .u32 0))) (Nat.le_of_eq HGR.out) (j := 1) (v := (.int .u64 0))) (Nat.le_of_eq HGR.out) (j := 2) (v := (.int .u64 0)))
  generalize (((wd.setCell ⟨gr, 0, none⟩ (.int .u32 0)).setCell ⟨gr, 1, none⟩ (.int .u64 0)).setCell ⟨gr, 2, none⟩ (.int .u64 0)) = wz at HQz HBz ⊢
  have y0 := blk_cell HQz.out 0
  have y1 := blk_cell HQz.out 1
  have y2 := blk_cell HQz.out 2
  simp only [List.getElem?_toArray, List.getElem?_cons_zero, List.getElem?_cons_succ] at y0 y1 y2
  exact bodyPost_ret (v := .tuple #[.agg #[.int .u32 0, .int .u64 0, .int .u64 0], .int .i64 0, .int .i64 4]) (by simp [results, Try.results21, go_sem, y0, y1, y2]) rfl ⟨rfl, HBz.out⟩
set_option maxHeartbeats 8000000 in
set_option maxRecDepth 100000 in
theorem descn_ok (s got s0 : ByteArray) (a0 : Int) (v1 : Int) (s1 : ByteArray) (a1 e1 : Int) (v2 : Int) (s2 : ByteArray) (a2 e2 : Int) (v3 : Int) (s3 : ByteArray) (a3 e3 : Int) (he : (e3 != 0) = false) (w : World) (F0 : cursor_Cursor_Take.f s 0 0 4 = some (got, s0, a0, 0)) (hg : (got.toList == (⟨#[80, 75, 7, 8]⟩ : ByteArray).toList) = true) (f1 : cursor_Cursor_Four.f 40 s0 a0 0 = some (v1, s1, a1, e1)) (f2 : cursor_Cursor_Four.f 40 s1 a1 e1 = some (v2, s2, a2, e2)) (f3 : cursor_Cursor_Four.f 40 s2 a2 e2 = some (v3, s3, a3, e3)) (p_v2 : 0 ≤ v2) (q_v2 : v2 ≤ 4294967295) (p_v3 : 0 ≤ v3) (q_v3 : v3 ≤ 4294967295) :
    Calls Try.prog 21 #[.string s, .bool false] w fun e w' => e = .returned (.tuple #[.agg #[.int .u32 v1, .int .u64 v2, .int .u64 v3], .int .i64 a3, .int .i64 0]) ∧ Below w.heap.size w w' := by
  have F1 := Aside0.mk f1
  have F2 := Aside0.mk f2
  have F3 := Aside0.mk f3
  clear f1 f2 f3
  have HZ := Aside0.mk (below_alloc (Below.refl w.heap.size w) (.cells #[.int .u32 0, .int .u64 0, .int .u64 0] 30))
  have HQZ := Aside0.mk (heap_alloc_new w (.cells #[.int .u32 0, .int .u64 0, .int .u64 0] 30))
  obtain ⟨gr, hgr⟩ : ∃ g, w.heap.size = g := ⟨_, rfl⟩
  have HGR := Aside0.mk hgr
  have F0 := Aside0.mk (show cursor_Cursor_Take.f s 0 0 (((⟨#[80, 75, 7, 8]⟩ : ByteArray).size : Nat) : Int) = some (got, s0, a0, 0) from F0)
  go_enter Try.func21, Try.ntmps21
  go_upto_region 4 with (go_at_call 28; (with_reducible refine (begin_ok s (⟨#[80, 75, 7, 8]⟩ : ByteArray) got s0 a0 w _ HZ.out F0.out hg).mono ?_); rintro e' w0 ⟨gc, rfl, hi, hb, hb2⟩; have HC0 := Aside0.mk hi; have HB0 := Aside0.mk hb; have HQ0 := Aside0.mk (blk_below HQZ.out hb2); clear hi hb hb2)
  rw [hgr] at HQ0
  clear HZ HQZ
  go_upto_region 5 with (first
    | (go_at_call 30; (with_reducible refine (cursor_Cursor_Four.calls 40 gc s0 a0 0 v1 s1 a1 e1 w _ HC0.out HB0.out F1.out).mono ?_); rintro e' w1 ⟨rfl, hi, hb, hk⟩; have HC1 := Aside0.mk hi; have HB1 := Aside0.mk hb; have HQ1 := Aside0.mk (kp HC0.out HQ0.out (by decide) hk); clear hi hb hk))
  have HBa := Aside0.mk (below_alloc HB1.out (.cells #[.int .u32 v1, .int .u64 0, .int .u64 0] 30))
  have HCa := Aside0.mk (IsS91.alloc HC1.out (.cells #[.int .u32 v1, .int .u64 0, .int .u64 0] 30))
  have HQa := Aside0.mk (blk_alloc HQ1.out (.cells #[.int .u32 v1, .int .u64 0, .int .u64 0] 30))
  have HSa := Aside0.mk (heap_alloc_new w1 (.cells #[.int .u32 v1, .int .u64 0, .int .u64 0] 30))
  have HNE := Aside0.mk (show gr ≠ w1.heap.size from Nat.ne_of_lt (blk_lt HQ1.out))
  have HGE := Aside0.mk (HB1.out.size)
  generalize w1.alloc (.cells #[.int .u32 v1, .int .u64 0, .int .u64 0] 30) = wa at HBa HCa HQa HSa ⊢
  generalize w1.heap.size = g7 at HSa HNE HGE ⊢
  clear HB1 HC1 HQ1
  have HB1 := HBa; have HC1 := HCa; have HQ1 := HQa; have HS1 := HSa
  clear HBa HCa HQa HSa HC0 HB0 HQ0
  go_upto_region 7 with (fail)
  go_upto_region 8 with (first
    | (go_at_call 30; (with_reducible refine (cursor_Cursor_Four.calls 40 gc s1 a1 e1 v2 s2 a2 e2 w _ HC1.out HB1.out F2.out).mono ?_); rintro e' w2 ⟨rfl, hi, hb, hk⟩; have HC2 := Aside0.mk hi; have HB2 := Aside0.mk hb; have HQ2 := Aside0.mk (kp HC1.out HQ1.out (by decide) hk); have HS2 := Aside0.mk (kp HC1.out HS1.out (by decide) hk); clear hi hb hk)
    | (go_at_call 30; (with_reducible refine (cursor_Cursor_Four.calls 40 gc s2 a2 e2 v3 s3 a3 e3 w _ HC2.out HB2.out F3.out).mono ?_); rintro e' w3 ⟨rfl, hi, hb, hk⟩; have HC3 := Aside0.mk hi; have HB3 := Aside0.mk hb; have HQ3 := Aside0.mk (kp HC2.out HQ2.out (by decide) hk); have HS3 := Aside0.mk (kp HC2.out HS2.out (by decide) hk); clear hi hb hk; have c1 := blk_cell HS3.out 1; have z1 := blk_frozen HS3.out 1; have c2 := blk_cell HS3.out 2; have z2 := blk_frozen HS3.out 2))
  have hgc : gc ≠ g7 := IsS91.ne_blk HC3.out HS3.out (by decide)
  have HCb := Aside0.mk (IsS91.far (IsS91.far HC3.out (p := ⟨g7, 1, none⟩) hgc (.int .u64 v2)) (p := ⟨g7, 2, none⟩) hgc (.int .u64 v3))
  have HBb := Aside0.mk (below_set (below_set HB3.out HGE.out (j := 1) (v := (.int .u64 v2))) HGE.out (j := 2) (v := (.int .u64 v3)))
  have HQb := Aside0.mk (blk_far (blk_far HQ3.out (p := ⟨g7, 1, none⟩) HNE.out (.int .u64 v2)) (p := ⟨g7, 2, none⟩) HNE.out (.int .u64 v3))
  have HSb := Aside0.mk (show ((w3.setCell ⟨g7, 1, none⟩ (.int .u64 v2)).setCell ⟨g7, 2, none⟩ (.int .u64 v3)).heap[g7]? = some (.cells #[.int .u32 v1, .int .u64 v2, .int .u64 v3] 30 (0, 0)) by simpa using (blk_set (blk_set HS3.out 1 (.int .u64 v2)) 2 (.int .u64 v3)))
  generalize ((w3.setCell ⟨g7, 1, none⟩ (.int .u64 v2)).setCell ⟨g7, 2, none⟩ (.int .u64 v3)) = wb3 at HCb HBb HQb HSb ⊢
  clear c1 z1 c2 z2 HC3 HB3 HQ3 HS3 hgc
  have HC3 := HCb; have HB3 := HBb; have HQ3 := HQb; have HS3 := HSb
  clear HCb HBb HQb HSb
  go_upto_region 10 with (go_at_call 32; (with_reducible refine (cursor_Cursor_Err.calls gc s3 a3 e3 e3 s3 a3 e3 w _ HC3.out HB3.out rfl).mono ?_); rintro e' wc ⟨rfl, hi, hb, hk⟩; have HCc := Aside0.mk hi; have HBc := Aside0.mk hb; have HQc := Aside0.mk (kp HC3.out HQ3.out (by decide) hk); have HSc := Aside0.mk (kp HC3.out HS3.out (by decide) hk); clear hi hb hk)
  refine start_ (n := 6) (S := fun w' => w'.cell? ⟨g7, 0, none⟩ = some (.int .u32 v1) ∧ w'.cell? ⟨g7, 1, none⟩ = some (.int .u64 v2) ∧ w'.cell? ⟨g7, 2, none⟩ = some (.int .u64 v3)) (ds := [3]) #[false, false, false, false, false, false] (by as_aux_lemma => kernel_rfl) rfl rfl ⟨(blk_cell HSc.out 0), (blk_cell HSc.out 1), (blk_cell HSc.out 2)⟩ (fun hHeld => ?_)
  refine pure_ (i := 1) (N := some 44) (v := ?_) (a' := ?_) #[false, true, false, false, false, false] rfl rfl (by as_aux_lemma => kernel_rfl) (fun _ _ _ h => h) (Or.inl ⟨by rfl, ?_⟩) ?_ ?_
  rotate_left
  · intro w'
    go_simp
    with_reducible rfl
  rotate_left
  · simp only [Act.put, List.setIfInBounds_toArray, List.set_cons_zero, List.set_cons_succ, i64_w, i32_w]
    rfl
  refine take_ (i := 0) (N := some 43) (v := ?_) (a' := ?_) #[true, true, false, false, false, false] rfl rfl (by as_aux_lemma => kernel_rfl) (fun _ _ _ h => h) (Or.inl ⟨by rfl, ?_⟩) hHeld ?_ ?_
  rotate_left
  · rintro w' ⟨s0, s1, s2⟩
    go_simp
    with_reducible rfl
  rotate_left
  · simp only [Act.put, List.setIfInBounds_toArray, List.set_cons_zero, List.set_cons_succ, i64_w, i32_w]
    rfl
  refine one_ (i := 2) (N := some 45) #[true, true, true, false, false, false] rfl rfl (by as_aux_lemma => kernel_rfl) (by decide) (fun K hK => ?_)
  refine goes_ Try.func33 (by as_aux_lemma => kernel_rfl) rfl #[.pointer (some ⟨gc, 0, none⟩)] (by rfl) rfl rfl (by simp only [List.map_toArray, List.map_cons, List.map_nil]; rfl) ?_
  with_reducible refine (cursor_Cursor_At.calls gc s3 a3 e3 a3 s3 a3 e3 w _ (IsS91.drew HCc.out) (below_drew1 HBc.out) rfl).mono ?_
  rintro e' wd ⟨rfl, hi, hb, hk⟩
  refine ⟨_, rfl, ?_⟩
  have HCd := Aside0.mk hi; have HBd := Aside0.mk hb; have HQd := Aside0.mk (kp (IsS91.drew HCc.out) (blk_drew HQc.out) (by decide) hk); have HSd := Aside0.mk (kp (IsS91.drew HCc.out) (blk_drew HSc.out) (by decide) hk); clear hi hb hk
  refine hK.out _ _ ⟨(blk_cell HSd.out 0), (blk_cell HSd.out 1), (blk_cell HSd.out 2)⟩ (fun hHeld => ?_)
  clear hK K
  refine norm_ (a' := ?_) ?_ ?_
  rotate_left
  · show Act.put _ (some 45) _ = _
    simp only [Act.put, List.setIfInBounds_toArray, List.set_cons_zero, List.set_cons_succ, i64_w, i32_w]
    rfl
  refine last_ (i := 3) (N := none) #[true, true, true, true, false, false] rfl rfl (by as_aux_lemma => kernel_rfl) (by decide) (fun K hK => ?_)
  have r0 := blk_cell HQd.out 0; have z0 := blk_frozen HQd.out 0; have r1 := blk_cell HQd.out 1; have z1 := blk_frozen HQd.out 1; have r2 := blk_cell HQd.out 2; have z2 := blk_frozen HQd.out 2
  refine skip_ (w1 := ?_) (by rfl) rfl ?_ ?_
  rotate_left
  · go_simp
    rfl
  refine hK.out _ _ ?_
  clear hK K
  refine pure_ (i := 4) (N := some 5) (v := ?_) (a' := ?_) #[true, true, true, true, true, false] rfl rfl (by as_aux_lemma => kernel_rfl) (fun _ _ _ h => h) (Or.inl ⟨by rfl, ?_⟩) ?_ ?_
  rotate_left
  · intro w'
    go_simp
    with_reducible rfl
  rotate_left
  · simp only [Act.put, List.setIfInBounds_toArray, List.set_cons_zero, List.set_cons_succ, i64_w, i32_w]
    rfl
  refine pure_ (i := 5) (N := some 6) (v := ?_) (a' := ?_) #[true, true, true, true, true, true] rfl rfl (by as_aux_lemma => kernel_rfl) (fun _ _ _ h => h) (Or.inl ⟨by rfl, ?_⟩) ?_ ?_
  rotate_left
  · intro w'
    go_simp
    with_reducible rfl
  rotate_left
  · simp only [Act.put, List.setIfInBounds_toArray, List.set_cons_zero, List.set_cons_succ, i64_w, i32_w]
    rfl
  refine done_ (by as_aux_lemma => kernel_rfl) ?_
  go_wp2
  have HQz := Aside0.mk (show (((wd.setCell ⟨gr, 0, none⟩ (.int .u32 v1)).setCell ⟨gr, 1, none⟩ (.int .u64 v2)).setCell ⟨gr, 2, none⟩ (.int .u64 v3)).heap[gr]? = some (.cells #[.int .u32 v1, .int .u64 v2, .int .u64 v3] 30 (0, 0)) by simpa using (blk_set (blk_set (blk_set HQd.out 0 (.int .u32 v1)) 1 (.int .u64 v2)) 2 (.int .u64 v3)))
  have HBz := Aside0.mk (below_set (below_set (below_set HBd.out (Nat.le_of_eq HGR.out) (j := 0) (v := (.int .u32 v1))) (Nat.le_of_eq HGR.out) (j := 1) (v := (.int .u64 v2))) (Nat.le_of_eq HGR.out) (j := 2) (v := (.int .u64 v3)))
  generalize (((wd.setCell ⟨gr, 0, none⟩ (.int .u32 v1)).setCell ⟨gr, 1, none⟩ (.int .u64 v2)).setCell ⟨gr, 2, none⟩ (.int .u64 v3)) = wz at HQz HBz ⊢
  have y0 := blk_cell HQz.out 0
  have y1 := blk_cell HQz.out 1
  have y2 := blk_cell HQz.out 2
  simp only [List.getElem?_toArray, List.getElem?_cons_zero, List.getElem?_cons_succ] at y0 y1 y2
  exact bodyPost_ret (v := .tuple #[.agg #[.int .u32 v1, .int .u64 v2, .int .u64 v3], .int .i64 a3, .int .i64 0]) (by simp [results, Try.results21, go_sem, y0, y1, y2]) rfl ⟨rfl, HBz.out⟩
set_option maxHeartbeats 8000000 in
set_option maxRecDepth 100000 in
theorem descn_fail (s got s0 : ByteArray) (a0 : Int) (v1 : Int) (s1 : ByteArray) (a1 e1 : Int) (v2 : Int) (s2 : ByteArray) (a2 e2 : Int) (v3 : Int) (s3 : ByteArray) (a3 e3 : Int) (he : (e3 != 0) = true) (w : World) (F0 : cursor_Cursor_Take.f s 0 0 4 = some (got, s0, a0, 0)) (hg : (got.toList == (⟨#[80, 75, 7, 8]⟩ : ByteArray).toList) = true) (f1 : cursor_Cursor_Four.f 40 s0 a0 0 = some (v1, s1, a1, e1)) (f2 : cursor_Cursor_Four.f 40 s1 a1 e1 = some (v2, s2, a2, e2)) (f3 : cursor_Cursor_Four.f 40 s2 a2 e2 = some (v3, s3, a3, e3)) (p_v2 : 0 ≤ v2) (q_v2 : v2 ≤ 4294967295) (p_v3 : 0 ≤ v3) (q_v3 : v3 ≤ 4294967295) :
    Calls Try.prog 21 #[.string s, .bool false] w fun e w' => e = .returned (.tuple #[.agg #[.int .u32 0, .int .u64 0, .int .u64 0], .int .i64 0, .int .i64 e3]) ∧ Below w.heap.size w w' := by
  have F1 := Aside0.mk f1
  have F2 := Aside0.mk f2
  have F3 := Aside0.mk f3
  clear f1 f2 f3
  have HZ := Aside0.mk (below_alloc (Below.refl w.heap.size w) (.cells #[.int .u32 0, .int .u64 0, .int .u64 0] 30))
  have HQZ := Aside0.mk (heap_alloc_new w (.cells #[.int .u32 0, .int .u64 0, .int .u64 0] 30))
  obtain ⟨gr, hgr⟩ : ∃ g, w.heap.size = g := ⟨_, rfl⟩
  have HGR := Aside0.mk hgr
  have F0 := Aside0.mk (show cursor_Cursor_Take.f s 0 0 (((⟨#[80, 75, 7, 8]⟩ : ByteArray).size : Nat) : Int) = some (got, s0, a0, 0) from F0)
  go_enter Try.func21, Try.ntmps21
  go_upto_region 4 with (go_at_call 28; (with_reducible refine (begin_ok s (⟨#[80, 75, 7, 8]⟩ : ByteArray) got s0 a0 w _ HZ.out F0.out hg).mono ?_); rintro e' w0 ⟨gc, rfl, hi, hb, hb2⟩; have HC0 := Aside0.mk hi; have HB0 := Aside0.mk hb; have HQ0 := Aside0.mk (blk_below HQZ.out hb2); clear hi hb hb2)
  rw [hgr] at HQ0
  clear HZ HQZ
  go_upto_region 5 with (first
    | (go_at_call 30; (with_reducible refine (cursor_Cursor_Four.calls 40 gc s0 a0 0 v1 s1 a1 e1 w _ HC0.out HB0.out F1.out).mono ?_); rintro e' w1 ⟨rfl, hi, hb, hk⟩; have HC1 := Aside0.mk hi; have HB1 := Aside0.mk hb; have HQ1 := Aside0.mk (kp HC0.out HQ0.out (by decide) hk); clear hi hb hk))
  have HBa := Aside0.mk (below_alloc HB1.out (.cells #[.int .u32 v1, .int .u64 0, .int .u64 0] 30))
  have HCa := Aside0.mk (IsS91.alloc HC1.out (.cells #[.int .u32 v1, .int .u64 0, .int .u64 0] 30))
  have HQa := Aside0.mk (blk_alloc HQ1.out (.cells #[.int .u32 v1, .int .u64 0, .int .u64 0] 30))
  have HSa := Aside0.mk (heap_alloc_new w1 (.cells #[.int .u32 v1, .int .u64 0, .int .u64 0] 30))
  have HNE := Aside0.mk (show gr ≠ w1.heap.size from Nat.ne_of_lt (blk_lt HQ1.out))
  have HGE := Aside0.mk (HB1.out.size)
  generalize w1.alloc (.cells #[.int .u32 v1, .int .u64 0, .int .u64 0] 30) = wa at HBa HCa HQa HSa ⊢
  generalize w1.heap.size = g7 at HSa HNE HGE ⊢
  clear HB1 HC1 HQ1
  have HB1 := HBa; have HC1 := HCa; have HQ1 := HQa; have HS1 := HSa
  clear HBa HCa HQa HSa HC0 HB0 HQ0
  go_upto_region 7 with (fail)
  go_upto_region 8 with (first
    | (go_at_call 30; (with_reducible refine (cursor_Cursor_Four.calls 40 gc s1 a1 e1 v2 s2 a2 e2 w _ HC1.out HB1.out F2.out).mono ?_); rintro e' w2 ⟨rfl, hi, hb, hk⟩; have HC2 := Aside0.mk hi; have HB2 := Aside0.mk hb; have HQ2 := Aside0.mk (kp HC1.out HQ1.out (by decide) hk); have HS2 := Aside0.mk (kp HC1.out HS1.out (by decide) hk); clear hi hb hk)
    | (go_at_call 30; (with_reducible refine (cursor_Cursor_Four.calls 40 gc s2 a2 e2 v3 s3 a3 e3 w _ HC2.out HB2.out F3.out).mono ?_); rintro e' w3 ⟨rfl, hi, hb, hk⟩; have HC3 := Aside0.mk hi; have HB3 := Aside0.mk hb; have HQ3 := Aside0.mk (kp HC2.out HQ2.out (by decide) hk); have HS3 := Aside0.mk (kp HC2.out HS2.out (by decide) hk); clear hi hb hk; have c1 := blk_cell HS3.out 1; have z1 := blk_frozen HS3.out 1; have c2 := blk_cell HS3.out 2; have z2 := blk_frozen HS3.out 2))
  have hgc : gc ≠ g7 := IsS91.ne_blk HC3.out HS3.out (by decide)
  have HCb := Aside0.mk (IsS91.far (IsS91.far HC3.out (p := ⟨g7, 1, none⟩) hgc (.int .u64 v2)) (p := ⟨g7, 2, none⟩) hgc (.int .u64 v3))
  have HBb := Aside0.mk (below_set (below_set HB3.out HGE.out (j := 1) (v := (.int .u64 v2))) HGE.out (j := 2) (v := (.int .u64 v3)))
  have HQb := Aside0.mk (blk_far (blk_far HQ3.out (p := ⟨g7, 1, none⟩) HNE.out (.int .u64 v2)) (p := ⟨g7, 2, none⟩) HNE.out (.int .u64 v3))
  have HSb := Aside0.mk (show ((w3.setCell ⟨g7, 1, none⟩ (.int .u64 v2)).setCell ⟨g7, 2, none⟩ (.int .u64 v3)).heap[g7]? = some (.cells #[.int .u32 v1, .int .u64 v2, .int .u64 v3] 30 (0, 0)) by simpa using (blk_set (blk_set HS3.out 1 (.int .u64 v2)) 2 (.int .u64 v3)))
  generalize ((w3.setCell ⟨g7, 1, none⟩ (.int .u64 v2)).setCell ⟨g7, 2, none⟩ (.int .u64 v3)) = wb3 at HCb HBb HQb HSb ⊢
  clear c1 z1 c2 z2 HC3 HB3 HQ3 HS3 hgc
  have HC3 := HCb; have HB3 := HBb; have HQ3 := HQb; have HS3 := HSb
  clear HCb HBb HQb HSb
  go_wp2_with (first
    | (go_at_call 32; (with_reducible refine (cursor_Cursor_Err.calls gc s3 a3 e3 e3 s3 a3 e3 w _ HC3.out HB3.out rfl).mono ?_); rintro e' wc ⟨rfl, hi, hb, hk⟩; have HCc := Aside0.mk hi; have HBc := Aside0.mk hb; have HQc := Aside0.mk (kp HC3.out HQ3.out (by decide) hk); have HSc := Aside0.mk (kp HC3.out HS3.out (by decide) hk); clear hi hb hk)
    | (go_at_call 32; (with_reducible refine (cursor_Cursor_Err.calls gc s3 a3 e3 e3 s3 a3 e3 w _ HCc.out HBc.out rfl).mono ?_); rintro e' wd ⟨rfl, hi, hb, hk⟩; have HCd := Aside0.mk hi; have HBd := Aside0.mk hb; have HQd := Aside0.mk (kp HCc.out HQc.out (by decide) hk); have HSd := Aside0.mk (kp HCc.out HSc.out (by decide) hk); clear hi hb hk; have r0 := blk_cell HQd.out 0; have z0 := blk_frozen HQd.out 0; have r1 := blk_cell HQd.out 1; have z1 := blk_frozen HQd.out 1; have r2 := blk_cell HQd.out 2; have z2 := blk_frozen HQd.out 2))
  have HQz := Aside0.mk (show (((wd.setCell ⟨gr, 0, none⟩ (.int .u32 0)).setCell ⟨gr, 1, none⟩ (.int .u64 0)).setCell ⟨gr, 2, none⟩ (.int .u64 0)).heap[gr]? = some (.cells #[.int .u32 0, .int .u64 0, .int .u64 0] 30 (0, 0)) by simpa using (blk_set (blk_set (blk_set HQd.out 0 (.int .u32 0)) 1 (.int .u64 0)) 2 (.int .u64 0)))
  have HBz := Aside0.mk (below_set (below_set (below_set HBd.out (Nat.le_of_eq HGR.out) (j := 0) (v := (.int .u32 0))) (Nat.le_of_eq HGR.out) (j := 1) (v := (.int .u64 0))) (Nat.le_of_eq HGR.out) (j := 2) (v := (.int .u64 0)))
  generalize (((wd.setCell ⟨gr, 0, none⟩ (.int .u32 0)).setCell ⟨gr, 1, none⟩ (.int .u64 0)).setCell ⟨gr, 2, none⟩ (.int .u64 0)) = wz at HQz HBz ⊢
  have y0 := blk_cell HQz.out 0
  have y1 := blk_cell HQz.out 1
  have y2 := blk_cell HQz.out 2
  simp only [List.getElem?_toArray, List.getElem?_cons_zero, List.getElem?_cons_succ] at y0 y1 y2
  exact bodyPost_ret (v := .tuple #[.agg #[.int .u32 0, .int .u64 0, .int .u64 0], .int .i64 0, .int .i64 e3]) (by simp [results, Try.results21, go_sem, y0, y1, y2]) rfl ⟨rfl, HBz.out⟩
def header_ParseDescriptor.f (s : ByteArray) (wide : Bool) : Option (Int × Int × Int × Int × Int) :=
  (cursor_Cursor_Take.f s 0 0 4).bind fun t0 => if t0.2.2.2 = 0 then (if (t0.1.toList == (⟨#[80, 75, 7, 8]⟩ : ByteArray).toList) = true then (if wide = true then ((cursor_Cursor_Four.f 40 t0.2.1 t0.2.2.1 t0.2.2.2).bind fun t1 => (cursor_Cursor_Eight.f 40 t1.2.1 t1.2.2.1 t1.2.2.2).bind fun t2 => (cursor_Cursor_Eight.f 40 t2.2.1 t2.2.2.1 t2.2.2.2).bind fun t3 => if t3.2.2.2 = 0 then some (t1.1, t2.1, t3.1, t3.2.2.1, 0) else some (0, 0, 0, 0, t3.2.2.2)) else ((cursor_Cursor_Four.f 40 t0.2.1 t0.2.2.1 t0.2.2.2).bind fun t1 => (cursor_Cursor_Four.f 40 t1.2.1 t1.2.2.1 t1.2.2.2).bind fun t2 => (cursor_Cursor_Four.f 40 t2.2.1 t2.2.2.1 t2.2.2.2).bind fun t3 => if t3.2.2.2 = 0 then some (t1.1, t2.1, t3.1, t3.2.2.1, 0) else some (0, 0, 0, 0, t3.2.2.2))) else some (0, 0, 0, 0, 4)) else some (0, 0, 0, 0, 3)
theorem header_ParseDescriptor.calls (s : ByteArray) (wide : Bool) (r1 r2 r3 r4 r5 : Int) (w : World) (h : header_ParseDescriptor.f s wide = some (r1, r2, r3, r4, r5)) :
    Calls Try.prog 21 #[.string s, .bool wide] w fun e w' => e = .returned (.tuple #[.agg #[.int .u32 r1, .int .u64 r2, .int .u64 r3], .int .i64 r4, .int .i64 r5]) ∧ Below w.heap.size w w' := by
  unfold header_ParseDescriptor.f at h
  obtain ⟨⟨got, s0, a0, e0⟩, f0, h⟩ := Option.bind_eq_some_iff.1 h
  dsimp only at f0 h
  by_cases h0 : e0 = 0
  · subst h0
    rw [if_pos rfl] at h
    cases hg : (got.toList == (⟨#[80, 75, 7, 8]⟩ : ByteArray).toList) with
    | false =>
      rw [hg, if_neg (by decide)] at h
      simp only [Option.some.injEq, Prod.mk.injEq] at h; obtain ⟨rfl, rfl, rfl, rfl, rfl⟩ := h
      exact descw_no s got s0 a0 0 w f0 hg wide
    | true =>
      rw [hg, if_pos rfl] at h
      cases wide with
      | true =>
        rw [if_pos rfl] at h
        obtain ⟨⟨v1, s1, a1, e1⟩, f1, h⟩ := Option.bind_eq_some_iff.1 h
        dsimp only at f1 h
        obtain ⟨⟨v2, s2, a2, e2⟩, f2, h⟩ := Option.bind_eq_some_iff.1 h
        dsimp only at f2 h
        obtain ⟨⟨v3, s3, a3, e3⟩, f3, h⟩ := Option.bind_eq_some_iff.1 h
        dsimp only at f3 h
        by_cases he : e3 = 0
        · rw [if_pos he] at h
          simp only [Option.some.injEq, Prod.mk.injEq] at h; obtain ⟨rfl, rfl, rfl, rfl, rfl⟩ := h
          exact descw_ok s got s0 a0 v1 s1 a1 e1 v2 s2 a2 e2 v3 s3 a3 e3 (by simp [he]) w f0 hg f1 f2 f3
        · rw [if_neg he] at h
          simp only [Option.some.injEq, Prod.mk.injEq] at h; obtain ⟨rfl, rfl, rfl, rfl, rfl⟩ := h
          exact descw_fail s got s0 a0 v1 s1 a1 e1 v2 s2 a2 e2 v3 s3 a3 e3 (by simp [he]) w f0 hg f1 f2 f3
      | false =>
        rw [if_neg (by decide)] at h
        obtain ⟨⟨v1, s1, a1, e1⟩, f1, h⟩ := Option.bind_eq_some_iff.1 h
        dsimp only at f1 h
        obtain ⟨⟨v2, s2, a2, e2⟩, f2, h⟩ := Option.bind_eq_some_iff.1 h
        dsimp only at f2 h
        obtain ⟨⟨v3, s3, a3, e3⟩, f3, h⟩ := Option.bind_eq_some_iff.1 h
        dsimp only at f3 h
        by_cases he : e3 = 0
        · rw [if_pos he] at h
          simp only [Option.some.injEq, Prod.mk.injEq] at h; obtain ⟨rfl, rfl, rfl, rfl, rfl⟩ := h
          exact descn_ok s got s0 a0 v1 s1 a1 e1 v2 s2 a2 e2 v3 s3 a3 e3 (by simp [he]) w f0 hg f1 f2 f3 (four_range f2).1 (four_range f2).2 (four_range f3).1 (four_range f3).2
        · rw [if_neg he] at h
          simp only [Option.some.injEq, Prod.mk.injEq] at h; obtain ⟨rfl, rfl, rfl, rfl, rfl⟩ := h
          exact descn_fail s got s0 a0 v1 s1 a1 e1 v2 s2 a2 e2 v3 s3 a3 e3 (by simp [he]) w f0 hg f1 f2 f3 (four_range f2).1 (four_range f2).2 (four_range f3).1 (four_range f3).2
  · rw [if_neg h0] at h
    simp only [Option.some.injEq, Prod.mk.injEq] at h; obtain ⟨rfl, rfl, rfl, rfl, rfl⟩ := h
    exact descw_bad s got s0 a0 e0 w f0 h0 wide
end Go.Proofs.Ytnjfddmajiihjaa.P
