/- The reference's ParseWide and PrintWide: four numbers in an array: the walks. -/
import Derived.Test.YtloojhhjljneeaaPlainWide
import Derived.Test.YtloojhhjljneeaaArr
import Derived.Test.YtloojhhjljneeaaPx5
import Derived.Test.YtloojhhjljneeaaPx7
namespace Go.Proofs.Ytloojhhjljneeaa.Wd
set_option linter.unusedVariables false
set_option linter.unusedSimpArgs false
open Go Go.RowKit Go.Proofs.Ytloojhhjljneeaa.P Go.Proofs.Ytloojhhjljneeaa.B Go.Proofs.Ytloojhhjljneeaa.Num Go.Proofs.Ytloojhhjljneeaa.Cur Go.Proofs.YtloojhhjljneeaaW.PrintWords Go.Proofs.YtloojhhjljneeaaW.PrintLast Go.Proofs.YtloojhhjljneeaaW.PrintMore

theorem set4 (i : Nat) (x0 x1 x2 x3 z : Int) : [x0, x1, x2, x3].set i z = [if i = 0 then z else x0, if i = 1 then z else x1, if i = 2 then z else x2, if i = 3 then z else x3] := by
  rcases i with _ | _ | _ | _ | i <;> simp
set_option maxHeartbeats 4000000 in
set_option maxRecDepth 100000 in
theorem refwide_calls (s : ByteArray) (a0 a1 a2 a3 : Bool) (hs : s.size ≤ 1000000) (y0 y1 y2 y3 y4 : Int) (w : World) (h : wrest [a0, a1, a2, a3] 4 0 s.data.toList [0, 0, 0, 0] = ([y0, y1, y2, y3], y4)) :
    Calls Try.prog 18 #[.string s, .agg #[.bool a0, .bool a1, .bool a2, .bool a3]] w fun e w' => e = .returned (.tuple #[.agg #[.int .u64 y0, .int .u64 y1, .int .u64 y2, .int .u64 y3], .int .i64 y4]) ∧ Below w.heap.size w w' := by
  have hu := Try.underlying52
  have hu2 := Try.underlying48
  have H := Aside0.mk h
  have HS := Aside0.mk hs
  clear h hs
  have HB := Aside0.mk (below_alloc (below_alloc (below_alloc (Below.refl w.heap.size w) (.cells #[.bool a0, .bool a1, .bool a2, .bool a3] 48)) (.cells #[.int .u64 0, .int .u64 0, .int .u64 0, .int .u64 0] 52)) (.cells #[.int .u64 0, .int .u64 0, .int .u64 0, .int .u64 0] 52))
  have HQ := Aside0.mk (blk_alloc (blk_alloc (heap_alloc_new w (.cells #[.bool a0, .bool a1, .bool a2, .bool a3] 48)) (.cells #[.int .u64 0, .int .u64 0, .int .u64 0, .int .u64 0] 52)) (.cells #[.int .u64 0, .int .u64 0, .int .u64 0, .int .u64 0] 52))
  have HY := Aside0.mk (blk_alloc (heap_alloc_new (w.alloc (.cells #[.bool a0, .bool a1, .bool a2, .bool a3] 48)) (.cells #[.int .u64 0, .int .u64 0, .int .u64 0, .int .u64 0] 52)) (.cells #[.int .u64 0, .int .u64 0, .int .u64 0, .int .u64 0] 52))
  have HX := Aside0.mk (heap_alloc_new ((w.alloc (.cells #[.bool a0, .bool a1, .bool a2, .bool a3] 48)).alloc (.cells #[.int .u64 0, .int .u64 0, .int .u64 0, .int .u64 0] 52)) (.cells #[.int .u64 0, .int .u64 0, .int .u64 0, .int .u64 0] 52))
  simp only [World.size_alloc] at HY HX
  go_enter Try.func18, Try.ntmps18
  go_wp2
  generalize ((w.alloc (.cells #[.bool a0, .bool a1, .bool a2, .bool a3] 48)).alloc (.cells #[.int .u64 0, .int .u64 0, .int .u64 0, .int .u64 0] 52)).alloc (.cells #[.int .u64 0, .int .u64 0, .int .u64 0, .int .u64 0] 52) = wa at HB HQ HY HX ⊢
  go_loopw [0, 7] (fun v0 v7 wr => ∃ (t : ByteArray) (i : Nat) (x0 x1 x2 x3 : Int), v0 = .string t ∧ v7 = .int .i64 i ∧ i ≤ 4 ∧ Aside0 (t.size ≤ 1000000) ∧ Aside0 (wrest [a0, a1, a2, a3] (4 - i) i t.data.toList [x0, x1, x2, x3] = ([y0, y1, y2, y3], y4))
      ∧ Aside0 (wr.heap[w.heap.size + 1 + 1]? = some (.cells #[.int .u64 x0, .int .u64 x1, .int .u64 x2, .int .u64 x3] 52 (0, 0))) ∧ Aside0 (wr.heap[w.heap.size + 1]? = some (.cells #[.int .u64 0, .int .u64 0, .int .u64 0, .int .u64 0] 52 (0, 0)))
      ∧ Aside0 (wr.heap[w.heap.size]? = some (.cells #[.bool a0, .bool a1, .bool a2, .bool a3] 48 (0, 0))) ∧ Aside0 (Below w.heap.size w wr))
    (fun _ v7 _ => 4 - (intOf v7).toNat)
  case atStart => exact ⟨s, 0, 0, 0, 0, 0, rfl, rfl, by omega, HS, H, HX, HY, HQ, HB⟩
  case round =>
    clear H HS HX HY HQ HB
    obtain ⟨t, i, x0, x1, x2, x3, rfl, rfl, hi, HT, H, HX, HY, HQ, HB⟩ := hrel
    have hy0 := blk_cell HY.out 0
    have hy1 := blk_cell HY.out 1
    have hy2 := blk_cell HY.out 2
    have hy3 := blk_cell HY.out 3
    have fy0 := blk_frozen HY.out 0
    have fy1 := blk_frozen HY.out 1
    have fy2 := blk_frozen HY.out 2
    have fy3 := blk_frozen HY.out 3
    by_cases hlt : i < 4
    · have hd : decide (i < 4) = true := decide_eq_true hlt
      have H3 : Aside0 (wrest [a0, a1, a2, a3] (3 - i + 1) i t.data.toList [x0, x1, x2, x3] = ([y0, y1, y2, y3], y4)) := ⟨by rw [show 3 - i + 1 = 4 - i by omega]; exact H.out⟩
      clear H
      have hci : ∃ u, wr.cell? ⟨w.heap.size + 1 + 1, i, none⟩ = some (.int .u64 u) := by
        have hi4 : i = 0 ∨ i = 1 ∨ i = 2 ∨ i = 3 := by omega
        rcases hi4 with rfl | rfl | rfl | rfl
        · exact ⟨_, blk_cell HX.out 0⟩
        · exact ⟨_, blk_cell HX.out 1⟩
        · exact ⟨_, blk_cell HX.out 2⟩
        · exact ⟨_, blk_cell HX.out 3⟩
      obtain ⟨u, hcu⟩ := hci
      have hfu := blk_frozen HX.out i
      have hqi : wr.cell? ⟨w.heap.size, i, none⟩ = some (.bool ([a0, a1, a2, a3].getD i false)) := by
        have hi4 : i = 0 ∨ i = 1 ∨ i = 2 ∨ i = 3 := by omega
        rcases hi4 with rfl | rfl | rfl | rfl
        · exact blk_cell HQ.out 0
        · exact blk_cell HQ.out 1
        · exact blk_cell HQ.out 2
        · exact blk_cell HQ.out 3
      obtain ⟨b, hb⟩ : ∃ b, [a0, a1, a2, a3].getD i false = b := ⟨_, rfl⟩
      rw [hb] at hqi
      have hi1 : decide ((i : Int) < 4) = true := decide_eq_true (by omega)
      by_cases h3 : i = 3
      · have h31 : ((i : Int) == 3) = true := by simp [h3]
        have h32 : (i == 3) = true := by simp [h3]
        cases b with
        | false =>
          have SK := Aside0.mk (show wrest [a0, a1, a2, a3] (4 - (i + 1)) (i + 1) t.data.toList [x0, x1, x2, x3] = ([y0, y1, y2, y3], y4) by have := H3.out; rw [wrest_skip hb] at this; rw [show 4 - (i + 1) = 3 - i by omega]; exact this)
          clear hb h3
          go_wp2
          refine ⟨⟨t, i + 1, x0, x1, x2, x3, rfl, by go_num, by omega, HT, SK, HX, HY, HQ, HB⟩, by simp [intOf]; omega⟩
        | true =>
          have ha := hb
          clear hb
          have hw : wid i = 4 := by unfold wid; first | rw [if_pos h3] | rw [if_neg h3]
          by_cases hl : t.size < 4
          · have hl1 : decide (t.size < 4) = true := decide_eq_true hl
            have hl2 : decide ((t.size : Int) < 4) = true := decide_eq_true (by omega)
            have hz := H3.out
            rw [wrest_short ha (by rw [toList_length]; omega)] at hz
            obtain ⟨⟨rfl, rfl, rfl, rfl⟩, rfl⟩ : (y0 = 0 ∧ y1 = 0 ∧ y2 = 0 ∧ y3 = 0) ∧ y4 = 31 := by simpa [eq_comm] using hz
            clear hz ha hw h3
            go_wp2
            refine bodyPost_ret (v := .tuple #[.agg #[.int .u64 0, .int .u64 0, .int .u64 0, .int .u64 0], .int .i64 31]) (by simp [results, Try.results18, go_sem, hy0, hy1, hy2, hy3]) rfl ⟨rfl, below_set (below_set (below_set (below_set HB.out (Nat.le_succ _)) (Nat.le_succ _)) (Nat.le_succ _)) (Nat.le_succ _)⟩
          · have hl1 : decide (t.size < 4) = false := decide_eq_false hl
            have hl2 : decide ((t.size : Int) < 4) = false := decide_eq_false (by omega)
            have hsz : (t.extract 0 4).size = 4 := by simp; omega
            have hnum := ref_number_eq (t.extract 0 4) (by omega) 40 (by omega)
            have hlt := leN_lt (t.extract 0 4).data.toList
            rw [toList_length, hsz] at hlt
            have hlt2 : leN (t.extract 0 4).data.toList < 18446744073709551616 := Nat.lt_of_lt_of_le hlt (by decide)
            have htk := H3.out
            rw [wrest_take ha (by rw [toList_length]; omega), hw] at htk
            have hex : (t.extract 0 4).data.toList = t.data.toList.take 4 := by rw [extract_list]; rfl
            rw [hex] at hnum
            obtain ⟨z, hz⟩ : ∃ z : Int, ((leN (t.data.toList.take 4) : Nat) : Int) = z := ⟨_, rfl⟩
            rw [hz] at hnum htk
            have SG := Aside0.mk hnum
            have hdr : (t.extract 4 t.size).data.toList = t.data.toList.drop 4 := by rw [extract_list, List.take_of_length_le (by rw [toList_length]; omega)]
            have TK : Aside0 (wrest [a0, a1, a2, a3] (4 - (i + 1)) (i + 1) (t.extract 4 t.size).data.toList ([x0, x1, x2, x3].set i z) = ([y0, y1, y2, y3], y4)) := ⟨by rw [hdr, show 4 - (i + 1) = 3 - i by omega]; exact htk⟩
            have HT4 : Aside0 ((t.extract 4 t.size).size ≤ 1000000) := ⟨by have := HT.out; simp; omega⟩
            clear hnum htk hz hdr hsz hex hlt hlt2 ha hw h3
            have q1 := eq_true (show (4 : Int) ≤ (t.size : Int) by omega)
            have q2 := eq_true (show (0 : Int) ≤ 4 by omega)
            have hi1 : decide ((i : Int) < 4) = true := decide_eq_true (by omega)
            go_wp2_with (go_at_call 27; (with_reducible refine (portmanteauref01_Number.calls 40 _ _ _ SG.out).mono ?_); rintro e w1 ⟨rfl, ⟨m, rfl⟩⟩)
            refine ⟨⟨_, i + 1, _, _, _, _, rfl, by go_num, by omega, HT4, ⟨(set4 i x0 x1 x2 x3 z ▸ TK.out)⟩, ⟨?_⟩, ⟨?_⟩, ⟨?_⟩, ⟨below_set (pw_below_drewN HB.out _) (Nat.le_add_right _ 2)⟩⟩, by simp [intOf]; omega⟩
            · have hbs := blk_set (w := wr.drewN m) HX.out i (.int .u64 z)
              have hi4 : i = 0 ∨ i = 1 ∨ i = 2 ∨ i = 3 := by omega
              rcases hi4 with rfl | rfl | rfl | rfl <;> exact hbs
            · exact blk_far (w := wr.drewN m) HY.out (p := ⟨w.heap.size + 1 + 1, i, none⟩) (by simp) _
            · exact blk_far (w := wr.drewN m) HQ.out (p := ⟨w.heap.size + 1 + 1, i, none⟩) (by simp; omega) _
      · have h31 : ((i : Int) == 3) = false := by simp; omega
        have h32 : (i == 3) = false := by simp; omega
        cases b with
        | false =>
          have SK := Aside0.mk (show wrest [a0, a1, a2, a3] (4 - (i + 1)) (i + 1) t.data.toList [x0, x1, x2, x3] = ([y0, y1, y2, y3], y4) by have := H3.out; rw [wrest_skip hb] at this; rw [show 4 - (i + 1) = 3 - i by omega]; exact this)
          clear hb h3
          go_wp2
          refine ⟨⟨t, i + 1, x0, x1, x2, x3, rfl, by go_num, by omega, HT, SK, HX, HY, HQ, HB⟩, by simp [intOf]; omega⟩
        | true =>
          have ha := hb
          clear hb
          have hw : wid i = 8 := by unfold wid; first | rw [if_pos h3] | rw [if_neg h3]
          by_cases hl : t.size < 8
          · have hl1 : decide (t.size < 8) = true := decide_eq_true hl
            have hl2 : decide ((t.size : Int) < 8) = true := decide_eq_true (by omega)
            have hz := H3.out
            rw [wrest_short ha (by rw [toList_length]; omega)] at hz
            obtain ⟨⟨rfl, rfl, rfl, rfl⟩, rfl⟩ : (y0 = 0 ∧ y1 = 0 ∧ y2 = 0 ∧ y3 = 0) ∧ y4 = 31 := by simpa [eq_comm] using hz
            clear hz ha hw h3
            go_wp2
            refine bodyPost_ret (v := .tuple #[.agg #[.int .u64 0, .int .u64 0, .int .u64 0, .int .u64 0], .int .i64 31]) (by simp [results, Try.results18, go_sem, hy0, hy1, hy2, hy3]) rfl ⟨rfl, below_set (below_set (below_set (below_set HB.out (Nat.le_succ _)) (Nat.le_succ _)) (Nat.le_succ _)) (Nat.le_succ _)⟩
          · have hl1 : decide (t.size < 8) = false := decide_eq_false hl
            have hl2 : decide ((t.size : Int) < 8) = false := decide_eq_false (by omega)
            have hsz : (t.extract 0 8).size = 8 := by simp; omega
            have hnum := ref_number_eq (t.extract 0 8) (by omega) 40 (by omega)
            have hlt := leN_lt (t.extract 0 8).data.toList
            rw [toList_length, hsz] at hlt
            have hlt2 : leN (t.extract 0 8).data.toList < 18446744073709551616 := Nat.lt_of_lt_of_le hlt (by decide)
            have htk := H3.out
            rw [wrest_take ha (by rw [toList_length]; omega), hw] at htk
            have hex : (t.extract 0 8).data.toList = t.data.toList.take 8 := by rw [extract_list]; rfl
            rw [hex] at hnum
            obtain ⟨z, hz⟩ : ∃ z : Int, ((leN (t.data.toList.take 8) : Nat) : Int) = z := ⟨_, rfl⟩
            rw [hz] at hnum htk
            have SG := Aside0.mk hnum
            have hdr : (t.extract 8 t.size).data.toList = t.data.toList.drop 8 := by rw [extract_list, List.take_of_length_le (by rw [toList_length]; omega)]
            have TK : Aside0 (wrest [a0, a1, a2, a3] (4 - (i + 1)) (i + 1) (t.extract 8 t.size).data.toList ([x0, x1, x2, x3].set i z) = ([y0, y1, y2, y3], y4)) := ⟨by rw [hdr, show 4 - (i + 1) = 3 - i by omega]; exact htk⟩
            have HT4 : Aside0 ((t.extract 8 t.size).size ≤ 1000000) := ⟨by have := HT.out; simp; omega⟩
            clear hnum htk hz hdr hsz hex hlt hlt2 ha hw h3
            have q1 := eq_true (show (8 : Int) ≤ (t.size : Int) by omega)
            have q2 := eq_true (show (0 : Int) ≤ 8 by omega)
            have hi1 : decide ((i : Int) < 4) = true := decide_eq_true (by omega)
            go_wp2_with (go_at_call 27; (with_reducible refine (portmanteauref01_Number.calls 40 _ _ _ SG.out).mono ?_); rintro e w1 ⟨rfl, ⟨m, rfl⟩⟩)
            refine ⟨⟨_, i + 1, _, _, _, _, rfl, by go_num, by omega, HT4, ⟨(set4 i x0 x1 x2 x3 z ▸ TK.out)⟩, ⟨?_⟩, ⟨?_⟩, ⟨?_⟩, ⟨below_set (pw_below_drewN HB.out _) (Nat.le_add_right _ 2)⟩⟩, by simp [intOf]; omega⟩
            · have hbs := blk_set (w := wr.drewN m) HX.out i (.int .u64 z)
              have hi4 : i = 0 ∨ i = 1 ∨ i = 2 ∨ i = 3 := by omega
              rcases hi4 with rfl | rfl | rfl | rfl <;> exact hbs
            · exact blk_far (w := wr.drewN m) HY.out (p := ⟨w.heap.size + 1 + 1, i, none⟩) (by simp) _
            · exact blk_far (w := wr.drewN m) HQ.out (p := ⟨w.heap.size + 1 + 1, i, none⟩) (by simp; omega) _
    · have hd : decide (i < 4) = false := decide_eq_false hlt
      obtain rfl : i = 4 := by omega
      have hx0 := blk_cell HX.out 0
      have hx1 := blk_cell HX.out 1
      have hx2 := blk_cell HX.out 2
      have hx3 := blk_cell HX.out 3
      have h := H.out
      rw [show 4 - 4 = 0 from rfl, wrest] at h
      by_cases hp : 0 < t.size
      · have hd1 : decide (0 < t.size) = true := decide_eq_true hp
        have hne : t.data.toList ≠ [] := by intro e; rw [← toList_length t, e] at hp; simp at hp
        rw [if_neg hne] at h
        obtain ⟨⟨rfl, rfl, rfl, rfl⟩, rfl⟩ : (y0 = 0 ∧ y1 = 0 ∧ y2 = 0 ∧ y3 = 0) ∧ y4 = 31 := by simpa [eq_comm] using h
        clear h H
        go_wp2
        refine bodyPost_ret (v := .tuple #[.agg #[.int .u64 0, .int .u64 0, .int .u64 0, .int .u64 0], .int .i64 31]) (by simp [results, Try.results18, go_sem, hy0, hy1, hy2, hy3]) rfl ⟨rfl, below_set (below_set (below_set (below_set HB.out (Nat.le_succ _)) (Nat.le_succ _)) (Nat.le_succ _)) (Nat.le_succ _)⟩
      · have hd1 : decide (0 < t.size) = false := decide_eq_false hp
        have hne : t.data.toList = [] := by apply List.eq_nil_of_length_eq_zero; rw [toList_length]; omega
        rw [if_pos hne] at h
        obtain ⟨⟨rfl, rfl, rfl, rfl⟩, rfl⟩ : (x0 = y0 ∧ x1 = y1 ∧ x2 = y2 ∧ x3 = y3) ∧ y4 = 0 := by simpa [eq_comm] using h
        clear h H
        go_wp2
        refine bodyPost_ret (v := .tuple #[.agg #[.int .u64 x0, .int .u64 x1, .int .u64 x2, .int .u64 x3], .int .i64 0]) (by simp [results, Try.results18, go_sem, hy0, hy1, hy2, hy3]) rfl ⟨rfl, below_set (below_set (below_set (below_set HB.out (Nat.le_succ _)) (Nat.le_succ _)) (Nat.le_succ _)) (Nat.le_succ _)⟩
end Go.Proofs.Ytloojhhjljneeaa.Wd
