/- The program's ParseWide: four numbers through pointers into a struct: the walk. -/
import Derived.Test.YtloojhhjljneeaaPlainWide
import Derived.Test.YtloojhhjljneeaaPx2
import Derived.Test.YtloojhhjljneeaaPx3
import Derived.Test.YtloojhhjljneeaaPx7
namespace Go.Proofs.Ytloojhhjljneeaa.Wd
set_option linter.unusedVariables false
set_option linter.unusedSimpArgs false
open Go Go.RowKit Go.Proofs.Ytloojhhjljneeaa.P Go.Proofs.Ytloojhhjljneeaa.B Go.Proofs.Ytloojhhjljneeaa.Num Go.Proofs.Ytloojhhjljneeaa.Cur Go.Proofs.YtloojhhjljneeaaW.PrintWords Go.Proofs.YtloojhhjljneeaaW.PrintLast Go.Proofs.YtloojhhjljneeaaW.PrintMore

theorem kp {w W W1 : World} {gc g t : Nat} {s : ByteArray} {a e : Int} {cs : Array Value} (hc : IsS81 w W gc s a e) (h : W.heap[g]? = some (.cells cs t (0, 0))) (ht : t ≠ 81) (hk : KeepBut W W1 gc none) : W1.heap[g]? = some (.cells cs t (0, 0)) :=
  hk.blk h (Ne.symm (IsS81.ne_blk hc h ht)) (by simp)
theorem blk_ne_of {W : World} {g g2 : Nat} {o o2 : Obj} (h : W.heap[g]? = some o) (h2 : W.heap[g2]? = some o2) (hne : g ≠ g2) : g ≠ g2 := hne
theorem set3 (i : Nat) (hi : i < 3) (x0 x1 x2 z : Int) : [x0, x1, x2, 0].set i z = [if i = 0 then z else x0, if i = 1 then z else x1, if i = 2 then z else x2, 0] := by
  rcases (show i = 0 ∨ i = 1 ∨ i = 2 by omega) with rfl | rfl | rfl <;> simp
theorem set3b {W : World} {b T i : Nat} {x0 x1 x2 x3 z : Int} (hi : i < 3) (h : W.heap[b]? = some (.cells #[.int .u64 x0, .int .u64 x1, .int .u64 x2, .int .u32 x3] T (0, 0))) :
    (W.setCell ⟨b, i, none⟩ (.int .u64 z)).heap[b]? = some (.cells #[.int .u64 (if i = 0 then z else x0), .int .u64 (if i = 1 then z else x1), .int .u64 (if i = 2 then z else x2), .int .u32 x3] T (0, 0)) := by
  have hbs := blk_set h i (.int .u64 z)
  rcases (show i = 0 ∨ i = 1 ∨ i = 2 by omega) with rfl | rfl | rfl <;> exact hbs
theorem cell3 {W : World} {b T : Nat} {x0 x1 x2 x3 : Int} (h : W.heap[b]? = some (.cells #[.int .u64 x0, .int .u64 x1, .int .u64 x2, .int .u32 x3] T (0, 0))) (i : Nat) (hi : i < 3) : ∃ u, W.cell? ⟨b, i, none⟩ = some (.int .u64 u) := by
  rcases (show i = 0 ∨ i = 1 ∨ i = 2 by omega) with rfl | rfl | rfl
  · exact ⟨_, blk_cell h 0⟩
  · exact ⟨_, blk_cell h 1⟩
  · exact ⟨_, blk_cell h 2⟩
set_option maxHeartbeats 4000000 in
set_option maxRecDepth 100000 in
theorem progwide_calls (s : ByteArray) (a0 a1 a2 a3 : Bool) (hs : s.size ≤ 1000000) (y0 y1 y2 y3 y4 : Int) (w : World) (h : wrest [a0, a1, a2, a3] 4 0 s.data.toList [0, 0, 0, 0] = ([y0, y1, y2, y3], y4)) :
    Calls Try.prog 17 #[.string s, .agg #[.bool a0, .bool a1, .bool a2, .bool a3]] w fun e w' => e = .returned (.tuple #[.agg #[.int .u64 y0, .int .u64 y1, .int .u64 y2, .int .u32 y3], .int .i64 y4]) ∧ Below w.heap.size w w' := by
  have hu1 := Try.underlying47
  have hu2 := Try.underlying44
  have HG := Aside0.mk (G.start [a0, a1, a2, a3] s hs)
  rw [h] at HG
  clear h
  have HB0 := Aside0.mk (below_alloc (below_alloc (Below.refl w.heap.size w) (.cells #[.bool a0, .bool a1, .bool a2, .bool a3] 44)) (.cells #[.int .u64 0, .int .u64 0, .int .u64 0, .int .u32 0] 47))
  have H30 := Aside0.mk (blk_alloc (heap_alloc_new w (.cells #[.bool a0, .bool a1, .bool a2, .bool a3] 44)) (.cells #[.int .u64 0, .int .u64 0, .int .u64 0, .int .u32 0] 47))
  have H40 := Aside0.mk (heap_alloc_new (w.alloc (.cells #[.bool a0, .bool a1, .bool a2, .bool a3] 44)) (.cells #[.int .u64 0, .int .u64 0, .int .u64 0, .int .u32 0] 47))
  simp only [World.size_alloc] at H40
  go_enter Try.func17, Try.ntmps17
  go_upto_region 1 with (fail)
  generalize (w.alloc (.cells #[.bool a0, .bool a1, .bool a2, .bool a3] 44)).alloc (.cells #[.int .u64 0, .int .u64 0, .int .u64 0, .int .u32 0] 47) = w0 at HB0 H30 H40 ⊢
  go_upto_region 2 with (go_at_call 21; refine (cursor_Over.calls s s 0 0 w _ HB0.out rfl).mono ?_; rintro e w1 ⟨gc, rfl, hi, hb, hb2⟩; have HC1 := Aside0.mk hi; have HB1 := Aside0.mk hb; have H31 := Aside0.mk (blk_below H30.out hb2); have H41 := Aside0.mk (blk_below H40.out hb2); clear hi hb hb2)
  clear HB0 H30 H40
  have hx30 := blk_cell (blk_alloc H31.out (.cells #[.int .u64 0, .int .u64 0, .int .u64 0, .int .u32 0] 47)) 0
  have hx31 := blk_cell (blk_alloc H31.out (.cells #[.int .u64 0, .int .u64 0, .int .u64 0, .int .u32 0] 47)) 1
  have hx32 := blk_cell (blk_alloc H31.out (.cells #[.int .u64 0, .int .u64 0, .int .u64 0, .int .u32 0] 47)) 2
  have HC2 := Aside0.mk (HC1.out.alloc (.cells #[.int .u64 0, .int .u64 0, .int .u64 0, .int .u32 0] 47))
  have HB2 := Aside0.mk (below_alloc HB1.out (.cells #[.int .u64 0, .int .u64 0, .int .u64 0, .int .u32 0] 47))
  have H32 := Aside0.mk (blk_alloc H31.out (.cells #[.int .u64 0, .int .u64 0, .int .u64 0, .int .u32 0] 47))
  have H42 := Aside0.mk (blk_alloc H41.out (.cells #[.int .u64 0, .int .u64 0, .int .u64 0, .int .u32 0] 47))
  have H72 := Aside0.mk (heap_alloc_new w1 (.cells #[.int .u64 0, .int .u64 0, .int .u64 0, .int .u32 0] 47))
  go_upto_region 3 with (fail)
  generalize w1.alloc (.cells #[.int .u64 0, .int .u64 0, .int .u64 0, .int .u32 0] 47) = w2 at HC2 HB2 H32 H42 H72 hx30 hx31 hx32 ⊢
  have hn3 : w.heap.size ≠ w1.heap.size := Nat.ne_of_lt (blk_lt H31.out)
  have hn4 : w.heap.size + 1 ≠ w1.heap.size := Nat.ne_of_lt (blk_lt H41.out)
  have hbw := Aside0.mk (show w.heap.size ≤ w1.heap.size from HB1.out.size)
  generalize w1.heap.size = b7 at H72 hbw hn3 hn4 ⊢
  clear HC1 HB1 H31 H41
  have HC3 := Aside0.mk (HC2.out.alloc (.cells #[.bool a0, .pointer (some ⟨b7, 0, none⟩), .bool a1, .pointer (some ⟨b7, 1, none⟩), .bool a2, .pointer (some ⟨b7, 2, none⟩)] 76))
  have HB3 := Aside0.mk (below_alloc HB2.out (.cells #[.bool a0, .pointer (some ⟨b7, 0, none⟩), .bool a1, .pointer (some ⟨b7, 1, none⟩), .bool a2, .pointer (some ⟨b7, 2, none⟩)] 76))
  have H33 := Aside0.mk (blk_alloc H32.out (.cells #[.bool a0, .pointer (some ⟨b7, 0, none⟩), .bool a1, .pointer (some ⟨b7, 1, none⟩), .bool a2, .pointer (some ⟨b7, 2, none⟩)] 76))
  have H43 := Aside0.mk (blk_alloc H42.out (.cells #[.bool a0, .pointer (some ⟨b7, 0, none⟩), .bool a1, .pointer (some ⟨b7, 1, none⟩), .bool a2, .pointer (some ⟨b7, 2, none⟩)] 76))
  have H73 := Aside0.mk (blk_alloc H72.out (.cells #[.bool a0, .pointer (some ⟨b7, 0, none⟩), .bool a1, .pointer (some ⟨b7, 1, none⟩), .bool a2, .pointer (some ⟨b7, 2, none⟩)] 76))
  have HS3 := Aside0.mk (heap_alloc_new w2 (.cells #[.bool a0, .pointer (some ⟨b7, 0, none⟩), .bool a1, .pointer (some ⟨b7, 1, none⟩), .bool a2, .pointer (some ⟨b7, 2, none⟩)] 76))
  go_wp2
  generalize w2.alloc (.cells #[.bool a0, .pointer (some ⟨b7, 0, none⟩), .bool a1, .pointer (some ⟨b7, 1, none⟩), .bool a2, .pointer (some ⟨b7, 2, none⟩)] 76) = w3 at HC3 HB3 H33 H43 H73 HS3 ⊢
  generalize w2.heap.size = bs at HS3 ⊢
  clear HC2 HB2 H32 H42 H72 hx30 hx31 hx32
  have hne37 := Aside0.mk (show w.heap.size ≠ b7 from hn3)
  have hne47 := Aside0.mk (show w.heap.size + 1 ≠ b7 from hn4)
  clear hn3 hn4
  go_loopw [26] (fun v26 wr => ∃ (i : Nat) (x0 x1 x2 : Int) (a e : Int), v26 = .int .i64 i ∧ i ≤ 3 ∧ Aside0 (G [a0, a1, a2, a3] s i a e [x0, x1, x2, 0] ([y0, y1, y2, y3], y4)) ∧ Aside0 (IsS81 w wr gc s a e)
      ∧ Aside0 (wr.heap[w.heap.size]? = some (.cells #[.bool a0, .bool a1, .bool a2, .bool a3] 44 (0, 0))) ∧ Aside0 (wr.heap[w.heap.size + 1]? = some (.cells #[.int .u64 0, .int .u64 0, .int .u64 0, .int .u32 0] 47 (0, 0)))
      ∧ Aside0 (wr.heap[b7]? = some (.cells #[.int .u64 x0, .int .u64 x1, .int .u64 x2, .int .u32 0] 47 (0, 0)))
      ∧ Aside0 (wr.heap[bs]? = some (.cells #[.bool a0, .pointer (some ⟨b7, 0, none⟩), .bool a1, .pointer (some ⟨b7, 1, none⟩), .bool a2, .pointer (some ⟨b7, 2, none⟩)] 76 (0, 0))) ∧ Aside0 (Below w.heap.size w wr))
    (fun v26 _ => 3 - (intOf v26).toNat)
  case atStart => exact ⟨0, 0, 0, 0, 0, 0, rfl, by omega, HG, HC3, H33, H43, H73, HS3, HB3⟩
  case round =>
    clear HG HC3 H33 H43 H73 HS3 HB3
    obtain ⟨i, x0, x1, x2, a, e, rfl, hi, HG, HC1, H31, H41, H71, HS1, HB1⟩ := hrel
    by_cases hlt : i < 3
    · have hd : decide (i < 3) = true := decide_eq_true hlt
      have hs0 : wr.cell? ⟨bs, i * 2, none⟩ = some (.bool ([a0, a1, a2, a3].getD i false)) := by
        have hi3 : i = 0 ∨ i = 1 ∨ i = 2 := by omega
        rcases hi3 with rfl | rfl | rfl
        · exact blk_cell HS1.out 0
        · exact blk_cell HS1.out 2
        · exact blk_cell HS1.out 4
      have hs1 : wr.cell? ⟨bs, i * 2 + 1, none⟩ = some (.pointer (some ⟨b7, i, none⟩)) := by
        have hi3 : i = 0 ∨ i = 1 ∨ i = 2 := by omega
        rcases hi3 with rfl | rfl | rfl
        · exact blk_cell HS1.out 1
        · exact blk_cell HS1.out 3
        · exact blk_cell HS1.out 5
      obtain ⟨b, hb⟩ : ∃ b, [a0, a1, a2, a3].getD i false = b := ⟨_, rfl⟩
      rw [hb] at hs0
      have HBV := Aside0.mk hb
      have hi1 : decide ((i : Int) < 3) = true := decide_eq_true (by omega)
      have HC2 := Aside0.mk (HC1.out.alloc (.cells #[.bool b, .pointer (some ⟨b7, i, none⟩)] 76))
      have HB2 := Aside0.mk (below_alloc HB1.out (.cells #[.bool b, .pointer (some ⟨b7, i, none⟩)] 76))
      have H32 := Aside0.mk (blk_alloc H31.out (.cells #[.bool b, .pointer (some ⟨b7, i, none⟩)] 76))
      have H42 := Aside0.mk (blk_alloc H41.out (.cells #[.bool b, .pointer (some ⟨b7, i, none⟩)] 76))
      have H72 := Aside0.mk (blk_alloc H71.out (.cells #[.bool b, .pointer (some ⟨b7, i, none⟩)] 76))
      have HS2 := Aside0.mk (blk_alloc HS1.out (.cells #[.bool b, .pointer (some ⟨b7, i, none⟩)] 76))
      have HE := Aside0.mk (heap_alloc_new wr (.cells #[.bool b, .pointer (some ⟨b7, i, none⟩)] 76))
      clear hb
      cases b with
      | false =>
        go_wp2
        refine ⟨⟨i + 1, x0, x1, x2, a, e, by go_num, by omega, ⟨HG.out.off (by omega) HBV.out⟩, HC2, H32, H42, H72, HS2, HB2⟩, by simp [intOf]; omega⟩
      | true =>
        obtain ⟨v, a', e', hf, hg, hv0, hv1⟩ := HG.out.eight hlt HBV.out
        have FE := Aside0.mk hf
        have HG5 := Aside0.mk hg
        clear hf hg
        go_upto_region 7 with (fail)
        generalize wr.alloc (.cells #[.bool true, .pointer (some ⟨b7, i, none⟩)] 76) = wx at HC2 HB2 H32 H42 H72 HS2 HE ⊢
        refine start_ (n := 6) (S := fun w' => w'.cell? ⟨wr.heap.size, 1, none⟩ = some (.pointer (some ⟨b7, i, none⟩))) (ds := [5]) #[false, false, false, false, false, false] (by kernel_rfl) rfl rfl ((blk_cell HE.out 1)) (fun hHeld => ?_)
        refine pure_ (i := 0) (N := some 32) (v := ?_) (a' := ?_) #[true, false, false, false, false, false] rfl rfl (by kernel_rfl) (fun _ _ _ h => h) (Or.inl ⟨by rfl, ?_⟩) ?_ ?_
        rotate_left
        · intro w'
          go_simp
          with_reducible rfl
        rotate_left
        · simp only [Act.put, List.setIfInBounds_toArray, List.set_cons_zero, List.set_cons_succ, i64_w, i32_w]
          rfl
        refine pure_ (i := 2) (N := some 34) (v := ?_) (a' := ?_) #[true, false, true, false, false, false] rfl rfl (by kernel_rfl) (fun _ _ _ h => h) (Or.inl ⟨by rfl, ?_⟩) ?_ ?_
        rotate_left
        · intro w'
          go_simp
          with_reducible rfl
        rotate_left
        · simp only [Act.put, List.setIfInBounds_toArray, List.set_cons_zero, List.set_cons_succ, i64_w, i32_w]
          rfl
        refine take_ (i := 1) (N := some 33) (v := ?_) (a' := ?_) #[true, true, true, false, false, false] rfl rfl (by kernel_rfl) (fun _ _ _ h => h) (Or.inl ⟨by rfl, ?_⟩) hHeld ?_ ?_
        rotate_left
        · intro w' s0
          go_simp
          with_reducible rfl
        rotate_left
        · simp only [Act.put, List.setIfInBounds_toArray, List.set_cons_zero, List.set_cons_succ, i64_w, i32_w]
          rfl
        refine one_ (i := 3) (N := some 35) #[true, true, true, true, false, false] rfl rfl (by kernel_rfl) (by decide) (fun K hK => ?_)
        refine goes_ Try.func33 (by kernel_rfl) rfl #[.pointer (some ⟨gc, 0, none⟩)] (by rfl) rfl rfl (by simp only [List.map_toArray, List.map_cons, List.map_nil]; rfl) ?_
        with_reducible refine (cursor_Cursor_Eight.calls 40 gc s a e v s a' e' w _ (IsS81.drew HC2.out) (below_drew1 HB2.out) FE.out).mono ?_
        rintro e5 w5 ⟨rfl, hi5, hb, hk⟩
        refine ⟨_, rfl, ?_⟩
        have HC5 := Aside0.mk hi5; have HB5 := Aside0.mk hb; have HE5 := Aside0.mk (kp (IsS81.drew HC2.out) (blk_drew HE.out) (by decide) hk); have H35 := Aside0.mk (kp (IsS81.drew HC2.out) (blk_drew H32.out) (by decide) hk); have H45 := Aside0.mk (kp (IsS81.drew HC2.out) (blk_drew H42.out) (by decide) hk); have H75 := Aside0.mk (kp (IsS81.drew HC2.out) (blk_drew H72.out) (by decide) hk); have HS5 := Aside0.mk (kp (IsS81.drew HC2.out) (blk_drew HS2.out) (by decide) hk); clear hi5 hb hk
        have hcw := cell3 H75.out i hlt
        obtain ⟨u, hcw⟩ := hcw
        have hfw := blk_frozen H75.out i
        refine hK.out _ _ ((blk_cell HE5.out 1)) (fun hHeld => ?_)
        clear hK K
        refine norm_ (a' := ?_) ?_ ?_
        rotate_left
        · show Act.put _ (some 35) _ = _
          simp only [Act.put, List.setIfInBounds_toArray, List.set_cons_zero, List.set_cons_succ, i64_w, i32_w]
          rfl
        refine pure_ (i := 4) (N := some 36) (v := ?_) (a' := ?_) #[true, true, true, true, true, false] rfl rfl (by kernel_rfl) (fun _ _ _ h => h) (Or.inl ⟨by rfl, ?_⟩) ?_ ?_
        rotate_left
        · intro w'
          go_simp
          with_reducible rfl
        rotate_left
        · simp only [Act.put, List.setIfInBounds_toArray, List.set_cons_zero, List.set_cons_succ, i64_w, i32_w]
          rfl
        refine last_ (i := 5) (N := none) #[true, true, true, true, true, true] rfl rfl (by kernel_rfl) (by decide) (fun K hK => ?_)
        refine skip_ (w1 := ?_) (by rfl) rfl ?_ ?_
        rotate_left
        · go_simp
          rfl
        refine hK.out _ _ ?_
        clear hK K
        refine done_ (by kernel_rfl) ?_
        go_wp2
        refine ⟨⟨i + 1, _, _, _, a', e', by go_num, by omega, ⟨set3 i hlt x0 x1 x2 v ▸ HG5.out⟩, ⟨(HC5.out.far (p := ⟨b7, i, none⟩) (IsS81.ne_blk HC5.out H75.out (by decide)) _).drewN 1⟩, ⟨blk_drew (blk_far H35.out (p := ⟨b7, i, none⟩) (blk_ne_of H35.out H75.out hne37.out) _)⟩, ⟨blk_drew (blk_far H45.out (p := ⟨b7, i, none⟩) (blk_ne_of H45.out H75.out hne47.out) _)⟩, ⟨blk_drew (set3b hlt H75.out)⟩, ⟨blk_drew (blk_far HS5.out (p := ⟨b7, i, none⟩) (blk_ne HS5.out H75.out (by decide)) _)⟩, ⟨below_set HB5.out hbw.out⟩⟩, by simp [intOf]; omega⟩
    · have hd : decide (i < 3) = false := decide_eq_false hlt
      obtain rfl : i = 3 := by omega
      have h33 := blk_cell H31.out 3
      cases a3 with
      | true =>
        obtain ⟨v, a', e', hf, hg, hv0, hv1⟩ := HG.out.four rfl
        have FF := Aside0.mk hf
        clear hf
        have HEF : Aside0 (cursor_Cursor_Err.f s a' e' = some (e', s, a', e')) := ⟨rfl⟩
        by_cases he : e' = 0
        · subst he
          obtain ⟨L, hL, hbad, hok⟩ := G.end_ok hg
          have HLF : Aside0 (cursor_Cursor_Left.f s a' 0 = some ((L : Int), s, a', 0)) := ⟨by unfold cursor_Cursor_Left.f; rw [hL]⟩
          clear hL
          by_cases hp : 0 < L
          · have hp1 : decide (0 < L) = true := decide_eq_true hp
            obtain ⟨⟨rfl, rfl, rfl, rfl⟩, rfl⟩ : (y0 = 0 ∧ y1 = 0 ∧ y2 = 0 ∧ y3 = 0) ∧ y4 = 31 := by simpa using hbad hp
            clear hbad hok hg HG
            go_wp2_with (first
              | (go_at_call 31; (with_reducible refine (cursor_Cursor_Four.calls 40 gc _ _ _ _ _ _ _ w _ HC1.out HB1.out FF.out).mono ?_); rintro e5 w5 ⟨rfl, hi5, hb, hk⟩; have HC5 := Aside0.mk hi5; have HB5 := Aside0.mk hb; have H45 := Aside0.mk (kp HC1.out H41.out (by decide) hk); have H75 := Aside0.mk (kp HC1.out H71.out (by decide) hk); have hcw := blk_cell H75.out 3; have hfw := blk_frozen H75.out 3; have HC6 := Aside0.mk (HC5.out.far (p := ⟨b7, 3, none⟩) (IsS81.ne_blk HC5.out H75.out (by decide)) (.int .u32 v)); have HB6 := Aside0.mk (below_set (g := b7) (j := 3) (v := .int .u32 v) HB5.out hbw.out); have H46 := Aside0.mk (blk_far H45.out (p := ⟨b7, 3, none⟩) (blk_ne_of H45.out H75.out hne47.out) (.int .u32 v)); have H76 := Aside0.mk (blk_set H75.out 3 (.int .u32 v)); clear hi5 hb hk)
              | (go_at_call 25; (with_reducible refine (cursor_Cursor_Err.calls gc _ _ _ _ _ _ _ w _ HC6.out HB6.out HEF.out).mono ?_); rintro e7 w7 ⟨rfl, hi5, hb, hk⟩; have HC7 := Aside0.mk hi5; have HB7 := Aside0.mk hb; have H47 := Aside0.mk (kp HC6.out H46.out (by decide) hk); have H77 := Aside0.mk (kp HC6.out H76.out (by decide) hk); have hy0 := blk_cell H47.out 0; have hy1 := blk_cell H47.out 1; have hy2 := blk_cell H47.out 2; have hy3 := blk_cell H47.out 3; have fy0 := blk_frozen H47.out 0; have fy1 := blk_frozen H47.out 1; have fy2 := blk_frozen H47.out 2; have fy3 := blk_frozen H47.out 3; clear hi5 hb hk)
              | (go_at_call 26; (with_reducible refine (cursor_Cursor_Left.calls gc _ _ _ _ _ _ _ w _ HC7.out HB7.out HLF.out).mono ?_); rintro e8 w8 ⟨rfl, hi5, hb, hk⟩; have HB8 := Aside0.mk hb; have H48 := Aside0.mk (kp HC7.out H47.out (by decide) hk); have H78 := Aside0.mk (kp HC7.out H77.out (by decide) hk); have hz0 := blk_cell H48.out 0; have hz1 := blk_cell H48.out 1; have hz2 := blk_cell H48.out 2; have hz3 := blk_cell H48.out 3; have fz0 := blk_frozen H48.out 0; have fz1 := blk_frozen H48.out 1; have fz2 := blk_frozen H48.out 2; have fz3 := blk_frozen H48.out 3; have hx0 := blk_cell H78.out 0; have hx1 := blk_cell H78.out 1; have hx2 := blk_cell H78.out 2; have hx3 := blk_cell H78.out 3; clear hi5 hb hk))
            refine bodyPost_ret (v := .tuple #[.agg #[.int .u64 0, .int .u64 0, .int .u64 0, .int .u32 0], .int .i64 31]) (by simp [results, Try.results17, go_sem, hz0, hz1, hz2, hz3]) rfl ⟨rfl, below_set (below_set (below_set (below_set HB8.out (Nat.le_succ _)) (Nat.le_succ _)) (Nat.le_succ _)) (Nat.le_succ _)⟩
          · have hp1 : decide (0 < L) = false := decide_eq_false hp
            obtain ⟨⟨rfl, rfl, rfl, rfl⟩, rfl⟩ : (x0 = y0 ∧ x1 = y1 ∧ x2 = y2 ∧ v = y3) ∧ y4 = 0 := by simpa [eq_comm] using hok (by omega)
            clear hbad hok hg HG
            go_wp2_with (first
              | (go_at_call 31; (with_reducible refine (cursor_Cursor_Four.calls 40 gc _ _ _ _ _ _ _ w _ HC1.out HB1.out FF.out).mono ?_); rintro e5 w5 ⟨rfl, hi5, hb, hk⟩; have HC5 := Aside0.mk hi5; have HB5 := Aside0.mk hb; have H45 := Aside0.mk (kp HC1.out H41.out (by decide) hk); have H75 := Aside0.mk (kp HC1.out H71.out (by decide) hk); have hcw := blk_cell H75.out 3; have hfw := blk_frozen H75.out 3; have HC6 := Aside0.mk (HC5.out.far (p := ⟨b7, 3, none⟩) (IsS81.ne_blk HC5.out H75.out (by decide)) (.int .u32 v)); have HB6 := Aside0.mk (below_set (g := b7) (j := 3) (v := .int .u32 v) HB5.out hbw.out); have H46 := Aside0.mk (blk_far H45.out (p := ⟨b7, 3, none⟩) (blk_ne_of H45.out H75.out hne47.out) (.int .u32 v)); have H76 := Aside0.mk (blk_set H75.out 3 (.int .u32 v)); clear hi5 hb hk)
              | (go_at_call 25; (with_reducible refine (cursor_Cursor_Err.calls gc _ _ _ _ _ _ _ w _ HC6.out HB6.out HEF.out).mono ?_); rintro e7 w7 ⟨rfl, hi5, hb, hk⟩; have HC7 := Aside0.mk hi5; have HB7 := Aside0.mk hb; have H47 := Aside0.mk (kp HC6.out H46.out (by decide) hk); have H77 := Aside0.mk (kp HC6.out H76.out (by decide) hk); have hy0 := blk_cell H47.out 0; have hy1 := blk_cell H47.out 1; have hy2 := blk_cell H47.out 2; have hy3 := blk_cell H47.out 3; have fy0 := blk_frozen H47.out 0; have fy1 := blk_frozen H47.out 1; have fy2 := blk_frozen H47.out 2; have fy3 := blk_frozen H47.out 3; clear hi5 hb hk)
              | (go_at_call 26; (with_reducible refine (cursor_Cursor_Left.calls gc _ _ _ _ _ _ _ w _ HC7.out HB7.out HLF.out).mono ?_); rintro e8 w8 ⟨rfl, hi5, hb, hk⟩; have HB8 := Aside0.mk hb; have H48 := Aside0.mk (kp HC7.out H47.out (by decide) hk); have H78 := Aside0.mk (kp HC7.out H77.out (by decide) hk); have hz0 := blk_cell H48.out 0; have hz1 := blk_cell H48.out 1; have hz2 := blk_cell H48.out 2; have hz3 := blk_cell H48.out 3; have fz0 := blk_frozen H48.out 0; have fz1 := blk_frozen H48.out 1; have fz2 := blk_frozen H48.out 2; have fz3 := blk_frozen H48.out 3; have hx0 := blk_cell H78.out 0; have hx1 := blk_cell H78.out 1; have hx2 := blk_cell H78.out 2; have hx3 := blk_cell H78.out 3; clear hi5 hb hk))
            refine bodyPost_ret (v := .tuple #[.agg #[.int .u64 x0, .int .u64 x1, .int .u64 x2, .int .u32 v], .int .i64 0]) (by simp [results, Try.results17, go_sem, hz0, hz1, hz2, hz3]) rfl ⟨rfl, below_set (below_set (below_set (below_set HB8.out (Nat.le_succ _)) (Nat.le_succ _)) (Nat.le_succ _)) (Nat.le_succ _)⟩
        · have he1 : (e' != 0) = true := by simp [he]
          obtain ⟨⟨rfl, rfl, rfl, rfl⟩, rfl⟩ : (y0 = 0 ∧ y1 = 0 ∧ y2 = 0 ∧ y3 = 0) ∧ y4 = 31 := by simpa using G.end_bad hg he
          clear hg HG he
          go_wp2_with (first
            | (go_at_call 31; (with_reducible refine (cursor_Cursor_Four.calls 40 gc _ _ _ _ _ _ _ w _ HC1.out HB1.out FF.out).mono ?_); rintro e5 w5 ⟨rfl, hi5, hb, hk⟩; have HC5 := Aside0.mk hi5; have HB5 := Aside0.mk hb; have H45 := Aside0.mk (kp HC1.out H41.out (by decide) hk); have H75 := Aside0.mk (kp HC1.out H71.out (by decide) hk); have hcw := blk_cell H75.out 3; have hfw := blk_frozen H75.out 3; have HC6 := Aside0.mk (HC5.out.far (p := ⟨b7, 3, none⟩) (IsS81.ne_blk HC5.out H75.out (by decide)) (.int .u32 v)); have HB6 := Aside0.mk (below_set (g := b7) (j := 3) (v := .int .u32 v) HB5.out hbw.out); have H46 := Aside0.mk (blk_far H45.out (p := ⟨b7, 3, none⟩) (blk_ne_of H45.out H75.out hne47.out) (.int .u32 v)); have H76 := Aside0.mk (blk_set H75.out 3 (.int .u32 v)); clear hi5 hb hk)
            | (go_at_call 25; (with_reducible refine (cursor_Cursor_Err.calls gc _ _ _ _ _ _ _ w _ HC6.out HB6.out HEF.out).mono ?_); rintro e7 w7 ⟨rfl, hi5, hb, hk⟩; have HC7 := Aside0.mk hi5; have HB7 := Aside0.mk hb; have H47 := Aside0.mk (kp HC6.out H46.out (by decide) hk); have H77 := Aside0.mk (kp HC6.out H76.out (by decide) hk); have hy0 := blk_cell H47.out 0; have hy1 := blk_cell H47.out 1; have hy2 := blk_cell H47.out 2; have hy3 := blk_cell H47.out 3; have fy0 := blk_frozen H47.out 0; have fy1 := blk_frozen H47.out 1; have fy2 := blk_frozen H47.out 2; have fy3 := blk_frozen H47.out 3; clear hi5 hb hk))
          refine bodyPost_ret (v := .tuple #[.agg #[.int .u64 0, .int .u64 0, .int .u64 0, .int .u32 0], .int .i64 31]) (by simp [results, Try.results17, go_sem, hy0, hy1, hy2, hy3]) rfl ⟨rfl, below_set (below_set (below_set (below_set HB7.out (Nat.le_succ _)) (Nat.le_succ _)) (Nat.le_succ _)) (Nat.le_succ _)⟩
      | false =>
        have hg := HG.out.off (by omega) rfl
        have HC6 := HC1; have HB6 := HB1; have H46 := H41; have H76 := H71
        obtain ⟨a', ha'⟩ : ∃ x, a = x := ⟨_, rfl⟩
        obtain ⟨e', he'⟩ : ∃ x, e = x := ⟨_, rfl⟩
        subst ha'
        subst he'
        have HEF : Aside0 (cursor_Cursor_Err.f s a e = some (e, s, a, e)) := ⟨rfl⟩
        by_cases he : e = 0
        · subst he
          obtain ⟨L, hL, hbad, hok⟩ := G.end_ok hg
          have HLF : Aside0 (cursor_Cursor_Left.f s a 0 = some ((L : Int), s, a, 0)) := ⟨by unfold cursor_Cursor_Left.f; rw [hL]⟩
          clear hL
          by_cases hp : 0 < L
          · have hp1 : decide (0 < L) = true := decide_eq_true hp
            obtain ⟨⟨rfl, rfl, rfl, rfl⟩, rfl⟩ : (y0 = 0 ∧ y1 = 0 ∧ y2 = 0 ∧ y3 = 0) ∧ y4 = 31 := by simpa using hbad hp
            clear hbad hok hg HG
            go_wp2_with (first
              | (go_at_call 25; (with_reducible refine (cursor_Cursor_Err.calls gc _ _ _ _ _ _ _ w _ HC6.out HB6.out HEF.out).mono ?_); rintro e7 w7 ⟨rfl, hi5, hb, hk⟩; have HC7 := Aside0.mk hi5; have HB7 := Aside0.mk hb; have H47 := Aside0.mk (kp HC6.out H46.out (by decide) hk); have H77 := Aside0.mk (kp HC6.out H76.out (by decide) hk); have hy0 := blk_cell H47.out 0; have hy1 := blk_cell H47.out 1; have hy2 := blk_cell H47.out 2; have hy3 := blk_cell H47.out 3; have fy0 := blk_frozen H47.out 0; have fy1 := blk_frozen H47.out 1; have fy2 := blk_frozen H47.out 2; have fy3 := blk_frozen H47.out 3; clear hi5 hb hk)
              | (go_at_call 26; (with_reducible refine (cursor_Cursor_Left.calls gc _ _ _ _ _ _ _ w _ HC7.out HB7.out HLF.out).mono ?_); rintro e8 w8 ⟨rfl, hi5, hb, hk⟩; have HB8 := Aside0.mk hb; have H48 := Aside0.mk (kp HC7.out H47.out (by decide) hk); have H78 := Aside0.mk (kp HC7.out H77.out (by decide) hk); have hz0 := blk_cell H48.out 0; have hz1 := blk_cell H48.out 1; have hz2 := blk_cell H48.out 2; have hz3 := blk_cell H48.out 3; have fz0 := blk_frozen H48.out 0; have fz1 := blk_frozen H48.out 1; have fz2 := blk_frozen H48.out 2; have fz3 := blk_frozen H48.out 3; have hx0 := blk_cell H78.out 0; have hx1 := blk_cell H78.out 1; have hx2 := blk_cell H78.out 2; have hx3 := blk_cell H78.out 3; clear hi5 hb hk))
            refine bodyPost_ret (v := .tuple #[.agg #[.int .u64 0, .int .u64 0, .int .u64 0, .int .u32 0], .int .i64 31]) (by simp [results, Try.results17, go_sem, hz0, hz1, hz2, hz3]) rfl ⟨rfl, below_set (below_set (below_set (below_set HB8.out (Nat.le_succ _)) (Nat.le_succ _)) (Nat.le_succ _)) (Nat.le_succ _)⟩
          · have hp1 : decide (0 < L) = false := decide_eq_false hp
            obtain ⟨⟨rfl, rfl, rfl, rfl⟩, rfl⟩ : (x0 = y0 ∧ x1 = y1 ∧ x2 = y2 ∧ 0 = y3) ∧ y4 = 0 := by simpa [eq_comm] using hok (by omega)
            clear hbad hok hg HG
            go_wp2_with (first
              | (go_at_call 25; (with_reducible refine (cursor_Cursor_Err.calls gc _ _ _ _ _ _ _ w _ HC6.out HB6.out HEF.out).mono ?_); rintro e7 w7 ⟨rfl, hi5, hb, hk⟩; have HC7 := Aside0.mk hi5; have HB7 := Aside0.mk hb; have H47 := Aside0.mk (kp HC6.out H46.out (by decide) hk); have H77 := Aside0.mk (kp HC6.out H76.out (by decide) hk); have hy0 := blk_cell H47.out 0; have hy1 := blk_cell H47.out 1; have hy2 := blk_cell H47.out 2; have hy3 := blk_cell H47.out 3; have fy0 := blk_frozen H47.out 0; have fy1 := blk_frozen H47.out 1; have fy2 := blk_frozen H47.out 2; have fy3 := blk_frozen H47.out 3; clear hi5 hb hk)
              | (go_at_call 26; (with_reducible refine (cursor_Cursor_Left.calls gc _ _ _ _ _ _ _ w _ HC7.out HB7.out HLF.out).mono ?_); rintro e8 w8 ⟨rfl, hi5, hb, hk⟩; have HB8 := Aside0.mk hb; have H48 := Aside0.mk (kp HC7.out H47.out (by decide) hk); have H78 := Aside0.mk (kp HC7.out H77.out (by decide) hk); have hz0 := blk_cell H48.out 0; have hz1 := blk_cell H48.out 1; have hz2 := blk_cell H48.out 2; have hz3 := blk_cell H48.out 3; have fz0 := blk_frozen H48.out 0; have fz1 := blk_frozen H48.out 1; have fz2 := blk_frozen H48.out 2; have fz3 := blk_frozen H48.out 3; have hx0 := blk_cell H78.out 0; have hx1 := blk_cell H78.out 1; have hx2 := blk_cell H78.out 2; have hx3 := blk_cell H78.out 3; clear hi5 hb hk))
            refine bodyPost_ret (v := .tuple #[.agg #[.int .u64 x0, .int .u64 x1, .int .u64 x2, .int .u32 0], .int .i64 0]) (by simp [results, Try.results17, go_sem, hz0, hz1, hz2, hz3]) rfl ⟨rfl, below_set (below_set (below_set (below_set HB8.out (Nat.le_succ _)) (Nat.le_succ _)) (Nat.le_succ _)) (Nat.le_succ _)⟩
        · have he1 : (e != 0) = true := by simp [he]
          obtain ⟨⟨rfl, rfl, rfl, rfl⟩, rfl⟩ : (y0 = 0 ∧ y1 = 0 ∧ y2 = 0 ∧ y3 = 0) ∧ y4 = 31 := by simpa using G.end_bad hg he
          clear hg HG he
          go_wp2_with (first
            | (go_at_call 25; (with_reducible refine (cursor_Cursor_Err.calls gc _ _ _ _ _ _ _ w _ HC6.out HB6.out HEF.out).mono ?_); rintro e7 w7 ⟨rfl, hi5, hb, hk⟩; have HC7 := Aside0.mk hi5; have HB7 := Aside0.mk hb; have H47 := Aside0.mk (kp HC6.out H46.out (by decide) hk); have H77 := Aside0.mk (kp HC6.out H76.out (by decide) hk); have hy0 := blk_cell H47.out 0; have hy1 := blk_cell H47.out 1; have hy2 := blk_cell H47.out 2; have hy3 := blk_cell H47.out 3; have fy0 := blk_frozen H47.out 0; have fy1 := blk_frozen H47.out 1; have fy2 := blk_frozen H47.out 2; have fy3 := blk_frozen H47.out 3; clear hi5 hb hk))
          refine bodyPost_ret (v := .tuple #[.agg #[.int .u64 0, .int .u64 0, .int .u64 0, .int .u32 0], .int .i64 31]) (by simp [results, Try.results17, go_sem, hy0, hy1, hy2, hy3]) rfl ⟨rfl, below_set (below_set (below_set (below_set HB7.out (Nat.le_succ _)) (Nat.le_succ _)) (Nat.le_succ _)) (Nat.le_succ _)⟩
end Go.Proofs.Ytloojhhjljneeaa.Wd
