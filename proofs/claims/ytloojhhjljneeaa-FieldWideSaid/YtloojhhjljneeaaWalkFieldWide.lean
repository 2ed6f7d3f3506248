/- FieldWide: what any bytes tell of what is asked of Zip64, and its bytes: the walk through the law's own code. -/
import Derived.Test.YtloojhhjljneeaaRefWideP
import Derived.Test.YtloojhhjljneeaaProgWide
import Derived.Test.YtloojhhjljneeaaArrEq
import Derived.Test.YtloojhhjljneeaaAwake
import Derived.Test.YtloojhhjljneeaaPx1
import Derived.Test.YtloojhhjljneeaaPx8
namespace Go.Proofs.Ytloojhhjljneeaa.Walk
set_option linter.unusedVariables false
set_option linter.unusedSimpArgs false
open Go Go.RowKit Go.Proofs.Ytloojhhjljneeaa.P Go.Proofs.Ytloojhhjljneeaa.B Go.Proofs.Ytloojhhjljneeaa.Num Go.Proofs.Ytloojhhjljneeaa.Cur Go.Proofs.Ytloojhhjljneeaa.Wd Go.Proofs.Ytloojhhjljneeaa.Ar Go.Proofs.YtloojhhjljneeaaW.PrintWords Go.Proofs.YtloojhhjljneeaaW.PrintLast Go.Proofs.YtloojhhjljneeaaW.PrintMore

theorem size64 : ∀ w, (sizeOf 45).run Try.prog w = .ok 1 w := fun w => by kernel_rfl
theorem wrest_last (qs : List Bool) : ∀ (d i : Nat) (R : List UInt8) (xs : List Int), i + d = 4 → 0 ≤ xs.getD 3 0 ∧ xs.getD 3 0 < 4294967296 → 0 ≤ (wrest qs d i R xs).1.getD 3 0 ∧ (wrest qs d i R xs).1.getD 3 0 < 4294967296 := by
  intro d
  induction d with
  | zero =>
    intro i R xs hi hx
    rw [wrest]
    split
    · exact hx
    · simp
  | succ d ih =>
    intro i R xs hi hx
    by_cases ha : qs.getD i false = true
    · by_cases hl : R.length < wid i
      · rw [wrest_short ha hl]; simp
      · rw [wrest_take ha hl]
        refine ih _ _ _ (by omega) ?_
        rw [List.getD_eq_getElem?_getD, List.getElem?_set]
        rw [List.getD_eq_getElem?_getD] at hx
        split
        · rename_i h3
          split
          · have hlt := leN_lt (R.take (wid i))
            rw [List.length_take, Nat.min_eq_left (by omega), show wid i = 4 by unfold wid; rw [if_pos h3]] at hlt
            have : leN (R.take 4) < 4294967296 := hlt
            rw [show wid i = 4 by unfold wid; rw [if_pos h3], Option.getD_some]
            omega
          · simp
        · exact hx
    · have ha' : qs.getD i false = false := by simpa using ha
      rw [wrest_skip ha']
      exact ih _ _ _ (by omega) hx
theorem wrest_four (qs : List Bool) (R : List UInt8) : ∃ y0 y1 y2 y3 y4, wrest qs 4 0 R [0, 0, 0, 0] = ([y0, y1, y2, y3], y4) := by
  have h : ∀ (d i : Nat) (R : List UInt8) (xs : List Int), xs.length = 4 → (wrest qs d i R xs).1.length = 4 := by
    intro d
    induction d with
    | zero => intro i R xs hx; rw [wrest]; split; exact hx; rfl
    | succ d ih =>
      intro i R xs hx
      rw [wrest]
      split
      · split
        · rfl
        · exact ih _ _ _ (by simp [hx])
      · exact ih _ _ _ hx
  have h4 := h 4 0 R [0, 0, 0, 0] rfl
  rcases hr : wrest qs 4 0 R [0, 0, 0, 0] with ⟨l, e⟩
  rw [hr] at h4
  match l, h4 with
  | [y0, y1, y2, y3], _ => exact ⟨y0, y1, y2, y3, e, rfl⟩
set_option maxHeartbeats 8000000 in
set_option maxRecDepth 100000 in
theorem wide_walk (s : ByteArray) (a0 a1 a2 a3 : Bool) (x0 x1 x2 x3 : Int) (w : World) (b0 : 0 ≤ x0 ∧ x0 < 18446744073709551616) (b1 : 0 ≤ x1 ∧ x1 < 18446744073709551616) (b2 : 0 ≤ x2 ∧ x2 < 18446744073709551616) (b3 : 0 ≤ x3 ∧ x3 < 4294967296) :
    Calls Try.prog 5 #[.string s, .agg #[.bool a0, .bool a1, .bool a2, .bool a3], .agg #[.int .u64 x0, .int .u64 x1, .int .u64 x2, .int .u32 x3]] w fun e w' => e = .returned (.bool true) ∧ Below w.heap.size w w' := by
  have hu1 := Try.underlying52
  have hu2 := Try.underlying47
  have hu3 := Try.underlying44
  have hu4 := Try.underlying48
  have HA := Aside0.mk awake_true
  have HB0 := Aside0.mk (below_alloc (below_alloc (Below.refl w.heap.size w) (.cells #[.bool a0, .bool a1, .bool a2, .bool a3] 44)) (.cells #[.int .u64 x0, .int .u64 x1, .int .u64 x2, .int .u32 x3] 47))
  have H40 := Aside0.mk (blk_alloc (heap_alloc_new w (.cells #[.bool a0, .bool a1, .bool a2, .bool a3] 44)) (.cells #[.int .u64 x0, .int .u64 x1, .int .u64 x2, .int .u32 x3] 47))
  have H50 := Aside0.mk (heap_alloc_new (w.alloc (.cells #[.bool a0, .bool a1, .bool a2, .bool a3] 44)) (.cells #[.int .u64 x0, .int .u64 x1, .int .u64 x2, .int .u32 x3] 47))
  simp only [World.size_alloc] at H50
  have FQ := Aside0.mk (fun w => refwprint_calls a0 a1 a2 a3 x0 x1 x2 x3 w b0 b1 b2 (by omega))
  have hpr := wpr_eq a0 a1 a2 a3 x0 x1 x2 x3 b0 b1 b2 b3
  obtain ⟨Q, hQ⟩ : ∃ Q, strN (wprs [a0, a1, a2, a3] [x0, x1, x2, x3] 4) = Q := ⟨_, rfl⟩
  rw [hQ] at FQ hpr
  have FP := Aside0.mk hpr
  have hv3 : IntKind.u64.wrap x3 = x3 := u64_id (by omega) (by omega)
  clear hpr hQ b0 b1 b2 b3
  by_cases hl : 1000 < s.size
  · have hl1 : decide (1000 < s.size) = true := decide_eq_true hl
    have hl2 : decide ((1000 : Int) < (s.size : Int)) = true := decide_eq_true (by omega)
    go_enter Try.func5, Try.ntmps5
    go_wp2_with (go_at_call 6; refine (portmanteaulaw14_awake.calls 100 true _ HA.out).mono ?_; rintro e w1 ⟨rfl, hb⟩; have HB1 := Aside0.mk (below_step HB0.out hb); clear hb)
    go_ret
    exact ⟨rfl, HB1.out⟩
  have hl1 : decide (1000 < s.size) = false := decide_eq_false hl
  have hl2 : decide ((1000 : Int) < (s.size : Int)) = false := decide_eq_false (by omega)
  obtain ⟨y0, y1, y2, y3, y4, hw⟩ := wrest_four [a0, a1, a2, a3] s.data.toList
  have hy3 := wrest_last [a0, a1, a2, a3] 4 0 s.data.toList [0, 0, 0, 0] rfl (by simp)
  rw [hw] at hy3
  have hy3' : 0 ≤ y3 ∧ y3 < 4294967296 := hy3
  have hv4 : IntKind.u64.wrap y3 = y3 := u64_id (by omega) (by omega)
  have FA := Aside0.mk (fun w => progwide_calls s a0 a1 a2 a3 (by omega) y0 y1 y2 y3 y4 w hw)
  have FB := Aside0.mk (fun w => refwide_calls s a0 a1 a2 a3 (by omega) y0 y1 y2 y3 y4 w hw)
  have hE : ∀ W : World, (Op.equalIn 10000 52 (.agg #[.int .u64 y0, .int .u64 y1, .int .u64 y2, .int .u64 y3]) (.agg #[.int .u64 y0, .int .u64 y1, .int .u64 y2, .int .u64 y3])).run Try.prog W = .ok true W := fun W =>
    run_equalIn_ints W .u64 9998 52 45 4 Try.underlying52 Try.underlying45 size64 [y0, y1, y2, y3] rfl
  clear hw hy3 hy3' hl
  go_enter Try.func5, Try.ntmps5
  go_upto_region 5 with (go_at_call 6; refine (portmanteaulaw14_awake.calls 100 true _ HA.out).mono ?_; rintro e w1 ⟨rfl, hb⟩; have HB1 := Aside0.mk (below_step HB0.out hb); have H41 := Aside0.mk (blk_below H40.out hb); have H51 := Aside0.mk (blk_below H50.out hb); clear hb)
  have hc0 := blk_cell H41.out 0; have hc1 := blk_cell H41.out 1; have hc2 := blk_cell H41.out 2; have hc3 := blk_cell H41.out 3
  have HB2 := Aside0.mk (below_alloc HB1.out (.cells #[.bool a0, .bool a1, .bool a2, .bool a3] 48))
  have H42 := Aside0.mk (blk_alloc H41.out (.cells #[.bool a0, .bool a1, .bool a2, .bool a3] 48))
  have H52 := Aside0.mk (blk_alloc H51.out (.cells #[.bool a0, .bool a1, .bool a2, .bool a3] 48))
  have H72 := Aside0.mk (heap_alloc_new w1 (.cells #[.bool a0, .bool a1, .bool a2, .bool a3] 48))
  go_upto_region 6 with (fail)
  generalize w1.alloc (.cells #[.bool a0, .bool a1, .bool a2, .bool a3] 48) = w2 at HB2 H42 H52 H72 ⊢
  generalize w1.heap.size = g7 at H72 ⊢
  clear hc0 hc1 hc2 hc3
  have hc0 := blk_cell H42.out 0; have hc1 := blk_cell H42.out 1; have hc2 := blk_cell H42.out 2; have hc3 := blk_cell H42.out 3
  go_upto_region 7 with (go_at_call 17; refine (FA.out _).mono ?_; rintro e w3 ⟨rfl, hb⟩; have HB3 := Aside0.mk (below_step HB2.out hb); have H43 := Aside0.mk (blk_below H42.out hb); have H53 := Aside0.mk (blk_below H52.out hb); have H73 := Aside0.mk (blk_below H72.out hb); clear hb)
  clear hc0 hc1 hc2 hc3
  have HB4 := Aside0.mk (below_alloc HB3.out (.cells #[.int .u64 y0, .int .u64 y1, .int .u64 y2, .int .u32 y3] 47))
  have H44 := Aside0.mk (blk_alloc H43.out (.cells #[.int .u64 y0, .int .u64 y1, .int .u64 y2, .int .u32 y3] 47))
  have H54 := Aside0.mk (blk_alloc H53.out (.cells #[.int .u64 y0, .int .u64 y1, .int .u64 y2, .int .u32 y3] 47))
  have H74 := Aside0.mk (blk_alloc H73.out (.cells #[.int .u64 y0, .int .u64 y1, .int .u64 y2, .int .u32 y3] 47))
  have H84 := Aside0.mk (heap_alloc_new w3 (.cells #[.int .u64 y0, .int .u64 y1, .int .u64 y2, .int .u32 y3] 47))
  generalize w3.alloc (.cells #[.int .u64 y0, .int .u64 y1, .int .u64 y2, .int .u32 y3] 47) = w4 at HB4 H44 H54 H74 H84 ⊢
  generalize w3.heap.size = g8 at H84 ⊢
  have hc0 := blk_cell H74.out 0; have hc1 := blk_cell H74.out 1; have hc2 := blk_cell H74.out 2; have hc3 := blk_cell H74.out 3
  go_upto_region 8 with (go_at_call 18; refine (FB.out _).mono ?_; rintro e w5 ⟨rfl, hb⟩; have HB5 := Aside0.mk (below_step HB4.out hb); have H45 := Aside0.mk (blk_below H44.out hb); have H55 := Aside0.mk (blk_below H54.out hb); have H75 := Aside0.mk (blk_below H74.out hb); have H85 := Aside0.mk (blk_below H84.out hb); clear hb)
  clear hc0 hc1 hc2 hc3
  have HBa := Aside0.mk (below_alloc HB5.out (.cells #[.int .u64 y0, .int .u64 y1, .int .u64 y2, .int .u64 y3] 52))
  have H4a := Aside0.mk (blk_alloc H45.out (.cells #[.int .u64 y0, .int .u64 y1, .int .u64 y2, .int .u64 y3] 52))
  have H5a := Aside0.mk (blk_alloc H55.out (.cells #[.int .u64 y0, .int .u64 y1, .int .u64 y2, .int .u64 y3] 52))
  have H7a := Aside0.mk (blk_alloc H75.out (.cells #[.int .u64 y0, .int .u64 y1, .int .u64 y2, .int .u64 y3] 52))
  have H8a := Aside0.mk (blk_alloc H85.out (.cells #[.int .u64 y0, .int .u64 y1, .int .u64 y2, .int .u64 y3] 52))
  have H0a := Aside0.mk (heap_alloc_new w5 (.cells #[.int .u64 y0, .int .u64 y1, .int .u64 y2, .int .u64 y3] 52))
  generalize w5.alloc (.cells #[.int .u64 y0, .int .u64 y1, .int .u64 y2, .int .u64 y3] 52) = wa at HBa H4a H5a H7a H8a H0a ⊢
  generalize w5.heap.size = g10 at H0a ⊢
  refine start_ (n := 36) (S := fun w' => w'.cell? ⟨g8, 0, none⟩ = some (.int .u64 y0) ∧ w'.cell? ⟨g8, 1, none⟩ = some (.int .u64 y1) ∧ w'.cell? ⟨g8, 2, none⟩ = some (.int .u64 y2) ∧ w'.cell? ⟨g8, 3, none⟩ = some (.int .u32 y3) ∧ w'.cell? ⟨g10, 0, none⟩ = some (.int .u64 y0) ∧ w'.cell? ⟨g10, 1, none⟩ = some (.int .u64 y1) ∧ w'.cell? ⟨g10, 2, none⟩ = some (.int .u64 y2) ∧ w'.cell? ⟨g10, 3, none⟩ = some (.int .u64 y3) ∧ w'.cell? ⟨w.heap.size + 1, 0, none⟩ = some (.int .u64 x0) ∧ w'.cell? ⟨w.heap.size + 1, 1, none⟩ = some (.int .u64 x1) ∧ w'.cell? ⟨w.heap.size + 1, 2, none⟩ = some (.int .u64 x2) ∧ w'.cell? ⟨w.heap.size + 1, 3, none⟩ = some (.int .u32 x3) ∧ w'.cell? ⟨w.heap.size, 0, none⟩ = some (.bool a0) ∧ w'.cell? ⟨w.heap.size, 1, none⟩ = some (.bool a1) ∧ w'.cell? ⟨w.heap.size, 2, none⟩ = some (.bool a2) ∧ w'.cell? ⟨w.heap.size, 3, none⟩ = some (.bool a3) ∧ w'.cell? ⟨g7, 0, none⟩ = some (.bool a0) ∧ w'.cell? ⟨g7, 1, none⟩ = some (.bool a1) ∧ w'.cell? ⟨g7, 2, none⟩ = some (.bool a2) ∧ w'.cell? ⟨g7, 3, none⟩ = some (.bool a3)) (ds := []) #[false, false, false, false, false, false, false, false, false, false, false, false, false, false, false, false, false, false, false, false, false, false, false, false, false, false, false, false, false, false, false, false, false, false, false, false] (by kernel_rfl) rfl rfl ⟨(blk_cell H8a.out 0), (blk_cell H8a.out 1), (blk_cell H8a.out 2), (blk_cell H8a.out 3), (blk_cell H0a.out 0), (blk_cell H0a.out 1), (blk_cell H0a.out 2), (blk_cell H0a.out 3), (blk_cell H5a.out 0), (blk_cell H5a.out 1), (blk_cell H5a.out 2), (blk_cell H5a.out 3), (blk_cell H4a.out 0), (blk_cell H4a.out 1), (blk_cell H4a.out 2), (blk_cell H4a.out 3), (blk_cell H7a.out 0), (blk_cell H7a.out 1), (blk_cell H7a.out 2), (blk_cell H7a.out 3)⟩ (fun hHeld => ?_)
  refine pure_ (i := 0) (N := some 38) (v := ?_) (a' := ?_) #[true, false, false, false, false, false, false, false, false, false, false, false, false, false, false, false, false, false, false, false, false, false, false, false, false, false, false, false, false, false, false, false, false, false, false, false] rfl rfl (by kernel_rfl) (fun _ _ _ h => h) (Or.inl ⟨by rfl, ?_⟩) ?_ ?_
  rotate_left
  · intro w'
    go_simp
    with_reducible rfl
  rotate_left
  · simp only [Act.put, List.setIfInBounds_toArray, List.set_cons_zero, List.set_cons_succ, i64_w, i32_w]
    rfl
  refine pure_ (i := 2) (N := some 40) (v := ?_) (a' := ?_) #[true, false, true, false, false, false, false, false, false, false, false, false, false, false, false, false, false, false, false, false, false, false, false, false, false, false, false, false, false, false, false, false, false, false, false, false] rfl rfl (by kernel_rfl) (fun _ _ _ h => h) (Or.inl ⟨by rfl, ?_⟩) ?_ ?_
  rotate_left
  · intro w'
    go_simp
    with_reducible rfl
  rotate_left
  · simp only [Act.put, List.setIfInBounds_toArray, List.set_cons_zero, List.set_cons_succ, i64_w, i32_w]
    rfl
  refine pure_ (i := 4) (N := some 42) (v := ?_) (a' := ?_) #[true, false, true, false, true, false, false, false, false, false, false, false, false, false, false, false, false, false, false, false, false, false, false, false, false, false, false, false, false, false, false, false, false, false, false, false] rfl rfl (by kernel_rfl) (fun _ _ _ h => h) (Or.inl ⟨by rfl, ?_⟩) ?_ ?_
  rotate_left
  · intro w'
    go_simp
    with_reducible rfl
  rotate_left
  · simp only [Act.put, List.setIfInBounds_toArray, List.set_cons_zero, List.set_cons_succ, i64_w, i32_w]
    rfl
  refine pure_ (i := 6) (N := some 44) (v := ?_) (a' := ?_) #[true, false, true, false, true, false, true, false, false, false, false, false, false, false, false, false, false, false, false, false, false, false, false, false, false, false, false, false, false, false, false, false, false, false, false, false] rfl rfl (by kernel_rfl) (fun _ _ _ h => h) (Or.inl ⟨by rfl, ?_⟩) ?_ ?_
  rotate_left
  · intro w'
    go_simp
    with_reducible rfl
  rotate_left
  · simp only [Act.put, List.setIfInBounds_toArray, List.set_cons_zero, List.set_cons_succ, i64_w, i32_w]
    rfl
  refine take_ (i := 1) (N := some 39) (v := ?_) (a' := ?_) #[true, true, true, false, true, false, true, false, false, false, false, false, false, false, false, false, false, false, false, false, false, false, false, false, false, false, false, false, false, false, false, false, false, false, false, false] rfl rfl (by kernel_rfl) (fun _ _ _ h => h) (Or.inl ⟨by rfl, ?_⟩) hHeld ?_ ?_
  rotate_left
  · rintro w' ⟨s0, s1, s2, s3, s4, s5, s6, s7, s8, s9, s10, s11, s12, s13, s14, s15, s16, s17, s18, s19⟩
    go_simp
    with_reducible rfl
  rotate_left
  · simp only [Act.put, List.setIfInBounds_toArray, List.set_cons_zero, List.set_cons_succ, i64_w, i32_w]
    rfl
  refine take_ (i := 3) (N := some 41) (v := ?_) (a' := ?_) #[true, true, true, true, true, false, true, false, false, false, false, false, false, false, false, false, false, false, false, false, false, false, false, false, false, false, false, false, false, false, false, false, false, false, false, false] rfl rfl (by kernel_rfl) (fun _ _ _ h => h) (Or.inl ⟨by rfl, ?_⟩) hHeld ?_ ?_
  rotate_left
  · rintro w' ⟨s0, s1, s2, s3, s4, s5, s6, s7, s8, s9, s10, s11, s12, s13, s14, s15, s16, s17, s18, s19⟩
    go_simp
    with_reducible rfl
  rotate_left
  · simp only [Act.put, List.setIfInBounds_toArray, List.set_cons_zero, List.set_cons_succ, i64_w, i32_w]
    rfl
  refine take_ (i := 5) (N := some 43) (v := ?_) (a' := ?_) #[true, true, true, true, true, true, true, false, false, false, false, false, false, false, false, false, false, false, false, false, false, false, false, false, false, false, false, false, false, false, false, false, false, false, false, false] rfl rfl (by kernel_rfl) (fun _ _ _ h => h) (Or.inl ⟨by rfl, ?_⟩) hHeld ?_ ?_
  rotate_left
  · rintro w' ⟨s0, s1, s2, s3, s4, s5, s6, s7, s8, s9, s10, s11, s12, s13, s14, s15, s16, s17, s18, s19⟩
    go_simp
    with_reducible rfl
  rotate_left
  · simp only [Act.put, List.setIfInBounds_toArray, List.set_cons_zero, List.set_cons_succ, i64_w, i32_w]
    rfl
  refine take_ (i := 7) (N := some 45) (v := ?_) (a' := ?_) #[true, true, true, true, true, true, true, true, false, false, false, false, false, false, false, false, false, false, false, false, false, false, false, false, false, false, false, false, false, false, false, false, false, false, false, false] rfl rfl (by kernel_rfl) (fun _ _ _ h => h) (Or.inl ⟨by rfl, ?_⟩) hHeld ?_ ?_
  rotate_left
  · rintro w' ⟨s0, s1, s2, s3, s4, s5, s6, s7, s8, s9, s10, s11, s12, s13, s14, s15, s16, s17, s18, s19⟩
    go_simp
    with_reducible rfl
  rotate_left
  · simp only [Act.put, List.setIfInBounds_toArray, List.set_cons_zero, List.set_cons_succ, i64_w, i32_w]
    rfl
  refine pure_ (i := 8) (N := some 46) (v := ?_) (a' := ?_) #[true, true, true, true, true, true, true, true, true, false, false, false, false, false, false, false, false, false, false, false, false, false, false, false, false, false, false, false, false, false, false, false, false, false, false, false] rfl rfl (by kernel_rfl) (fun _ _ _ h => h) (Or.inl ⟨by rfl, ?_⟩) ?_ ?_
  rotate_left
  · intro w'
    go_simp
    with_reducible rfl
  rotate_left
  · simp only [Act.put, List.setIfInBounds_toArray, List.set_cons_zero, List.set_cons_succ, i64_w, i32_w]
    rfl
  refine pure_ (i := 9) (N := some 47) (v := ?_) (a' := ?_) #[true, true, true, true, true, true, true, true, true, true, false, false, false, false, false, false, false, false, false, false, false, false, false, false, false, false, false, false, false, false, false, false, false, false, false, false] rfl rfl (by kernel_rfl) (fun _ _ _ h => h) (Or.inl ⟨by rfl, ?_⟩) ?_ ?_
  rotate_left
  · intro w'
    go_simp
    with_reducible rfl
  rotate_left
  · simp only [Act.put, List.setIfInBounds_toArray, List.set_cons_zero, List.set_cons_succ, i64_w, i32_w]
    rfl
  refine take_ (i := 10) (N := some 48) (v := ?_) (a' := ?_) #[true, true, true, true, true, true, true, true, true, true, true, false, false, false, false, false, false, false, false, false, false, false, false, false, false, false, false, false, false, false, false, false, false, false, false, false] rfl rfl (by kernel_rfl) (fun _ _ _ h => h) (Or.inl ⟨by rfl, ?_⟩) hHeld ?_ ?_
  rotate_left
  · rintro w' ⟨s0, s1, s2, s3, s4, s5, s6, s7, s8, s9, s10, s11, s12, s13, s14, s15, s16, s17, s18, s19⟩
    go_simp
    with_reducible rfl
  rotate_left
  · simp only [Act.put, List.setIfInBounds_toArray, List.set_cons_zero, List.set_cons_succ, i64_w, i32_w]
    rfl
  refine pure_ (i := 11) (N := some 49) (v := ?_) (a' := ?_) #[true, true, true, true, true, true, true, true, true, true, true, true, false, false, false, false, false, false, false, false, false, false, false, false, false, false, false, false, false, false, false, false, false, false, false, false] rfl rfl (by kernel_rfl) (fun _ _ _ h => h) (Or.inl ⟨by rfl, ?_⟩) ?_ ?_
  rotate_left
  · intro w'
    go_simp
    with_reducible rfl
  rotate_left
  · simp only [Act.put, List.setIfInBounds_toArray, List.set_cons_zero, List.set_cons_succ, i64_w, i32_w]
    rfl
  refine pure_ (i := 12) (N := some 50) (v := ?_) (a' := ?_) #[true, true, true, true, true, true, true, true, true, true, true, true, true, false, false, false, false, false, false, false, false, false, false, false, false, false, false, false, false, false, false, false, false, false, false, false] rfl rfl (by kernel_rfl) (fun _ _ _ h => h) (Or.inl ⟨by rfl, ?_⟩) ?_ ?_
  rotate_left
  · intro w'
    go_simp
    with_reducible rfl
  rotate_left
  · simp only [Act.put, List.setIfInBounds_toArray, List.set_cons_zero, List.set_cons_succ, i64_w, i32_w]
    rfl
  refine pure_ (i := 13) (N := some 51) (v := ?_) (a' := ?_) #[true, true, true, true, true, true, true, true, true, true, true, true, true, true, false, false, false, false, false, false, false, false, false, false, false, false, false, false, false, false, false, false, false, false, false, false] rfl rfl (by kernel_rfl) (fun _ _ _ h => h) (Or.inl ⟨by rfl, ?_⟩) ?_ ?_
  rotate_left
  · intro w'
    go_simp
    with_reducible rfl
  rotate_left
  · simp only [Act.put, List.setIfInBounds_toArray, List.set_cons_zero, List.set_cons_succ, i64_w, i32_w]
    rfl
  refine pure_ (i := 14) (N := some 52) (v := ?_) (a' := ?_) #[true, true, true, true, true, true, true, true, true, true, true, true, true, true, true, false, false, false, false, false, false, false, false, false, false, false, false, false, false, false, false, false, false, false, false, false] rfl rfl (by kernel_rfl) (fun _ _ _ h => h) (Or.inl ⟨by rfl, ?_⟩) ?_ ?_
  rotate_left
  · intro w'
    go_simp
    with_reducible rfl
  rotate_left
  · simp only [Act.put, List.setIfInBounds_toArray, List.set_cons_zero, List.set_cons_succ, i64_w, i32_w]
    rfl
  refine pure_ (i := 15) (N := some 53) (v := ?_) (a' := ?_) #[true, true, true, true, true, true, true, true, true, true, true, true, true, true, true, true, false, false, false, false, false, false, false, false, false, false, false, false, false, false, false, false, false, false, false, false] rfl rfl (by kernel_rfl) (fun _ _ _ h => h) (Or.inl ⟨by rfl, ?_⟩) ?_ ?_
  rotate_left
  · intro w'
    go_simp
    with_reducible rfl
  rotate_left
  · simp only [Act.put, List.setIfInBounds_toArray, List.set_cons_zero, List.set_cons_succ, i64_w, i32_w]
    rfl
  refine pure_ (i := 16) (N := some 54) (v := ?_) (a' := ?_) #[true, true, true, true, true, true, true, true, true, true, true, true, true, true, true, true, true, false, false, false, false, false, false, false, false, false, false, false, false, false, false, false, false, false, false, false] rfl rfl (by kernel_rfl) (fun _ _ _ h => h) (Or.inl ⟨by rfl, ?_⟩) ?_ ?_
  rotate_left
  · intro w'
    go_simp
    with_reducible rfl
  rotate_left
  · simp only [Act.put, List.setIfInBounds_toArray, List.set_cons_zero, List.set_cons_succ, i64_w, i32_w]
    rfl
  refine pure_ (i := 17) (N := some 55) (v := ?_) (a' := ?_) #[true, true, true, true, true, true, true, true, true, true, true, true, true, true, true, true, true, true, false, false, false, false, false, false, false, false, false, false, false, false, false, false, false, false, false, false] rfl rfl (by kernel_rfl) (fun _ _ _ h => h) (Or.inl ⟨by rfl, ?_⟩) ?_ ?_
  rotate_left
  · intro w'
    go_simp
    with_reducible rfl
  rotate_left
  · simp only [Act.put, List.setIfInBounds_toArray, List.set_cons_zero, List.set_cons_succ, i64_w, i32_w]
    rfl
  refine pure_ (i := 21) (N := some 59) (v := ?_) (a' := ?_) #[true, true, true, true, true, true, true, true, true, true, true, true, true, true, true, true, true, true, false, false, false, true, false, false, false, false, false, false, false, false, false, false, false, false, false, false] rfl rfl (by kernel_rfl) (fun _ _ _ h => h) (Or.inl ⟨by rfl, ?_⟩) ?_ ?_
  rotate_left
  · intro w'
    go_simp
    with_reducible rfl
  rotate_left
  · simp only [Act.put, List.setIfInBounds_toArray, List.set_cons_zero, List.set_cons_succ, i64_w, i32_w]
    rfl
  refine pure_ (i := 23) (N := some 61) (v := ?_) (a' := ?_) #[true, true, true, true, true, true, true, true, true, true, true, true, true, true, true, true, true, true, false, false, false, true, false, true, false, false, false, false, false, false, false, false, false, false, false, false] rfl rfl (by kernel_rfl) (fun _ _ _ h => h) (Or.inl ⟨by rfl, ?_⟩) ?_ ?_
  rotate_left
  · intro w'
    go_simp
    with_reducible rfl
  rotate_left
  · simp only [Act.put, List.setIfInBounds_toArray, List.set_cons_zero, List.set_cons_succ, i64_w, i32_w]
    rfl
  refine pure_ (i := 25) (N := some 63) (v := ?_) (a' := ?_) #[true, true, true, true, true, true, true, true, true, true, true, true, true, true, true, true, true, true, false, false, false, true, false, true, false, true, false, false, false, false, false, false, false, false, false, false] rfl rfl (by kernel_rfl) (fun _ _ _ h => h) (Or.inl ⟨by rfl, ?_⟩) ?_ ?_
  rotate_left
  · intro w'
    go_simp
    with_reducible rfl
  rotate_left
  · simp only [Act.put, List.setIfInBounds_toArray, List.set_cons_zero, List.set_cons_succ, i64_w, i32_w]
    rfl
  refine pure_ (i := 27) (N := some 65) (v := ?_) (a' := ?_) #[true, true, true, true, true, true, true, true, true, true, true, true, true, true, true, true, true, true, false, false, false, true, false, true, false, true, false, true, false, false, false, false, false, false, false, false] rfl rfl (by kernel_rfl) (fun _ _ _ h => h) (Or.inl ⟨by rfl, ?_⟩) ?_ ?_
  rotate_left
  · intro w'
    go_simp
    with_reducible rfl
  rotate_left
  · simp only [Act.put, List.setIfInBounds_toArray, List.set_cons_zero, List.set_cons_succ, i64_w, i32_w]
    rfl
  refine take_ (i := 18) (N := some 56) (v := ?_) (a' := ?_) #[true, true, true, true, true, true, true, true, true, true, true, true, true, true, true, true, true, true, true, false, false, true, false, true, false, true, false, true, false, false, false, false, false, false, false, false] rfl rfl (by kernel_rfl) (fun _ _ _ h => h) (Or.inl ⟨by rfl, ?_⟩) hHeld ?_ ?_
  rotate_left
  · rintro w' ⟨s0, s1, s2, s3, s4, s5, s6, s7, s8, s9, s10, s11, s12, s13, s14, s15, s16, s17, s18, s19⟩
    go_simp
    with_reducible rfl
  rotate_left
  · simp only [Act.put, List.setIfInBounds_toArray, List.set_cons_zero, List.set_cons_succ, i64_w, i32_w]
    rfl
  refine take_ (i := 19) (N := some 57) (v := ?_) (a' := ?_) #[true, true, true, true, true, true, true, true, true, true, true, true, true, true, true, true, true, true, true, true, false, true, false, true, false, true, false, true, false, false, false, false, false, false, false, false] rfl rfl (by kernel_rfl) (fun _ _ _ h => h) (Or.inl ⟨by rfl, ?_⟩) hHeld ?_ ?_
  rotate_left
  · rintro w' ⟨s0, s1, s2, s3, s4, s5, s6, s7, s8, s9, s10, s11, s12, s13, s14, s15, s16, s17, s18, s19⟩
    go_simp
    with_reducible rfl
  rotate_left
  · simp only [Act.put, List.setIfInBounds_toArray, List.set_cons_zero, List.set_cons_succ, i64_w, i32_w]
    rfl
  refine take_ (i := 22) (N := some 60) (v := ?_) (a' := ?_) #[true, true, true, true, true, true, true, true, true, true, true, true, true, true, true, true, true, true, true, true, false, true, true, true, false, true, false, true, false, false, false, false, false, false, false, false] rfl rfl (by kernel_rfl) (fun _ _ _ h => h) (Or.inl ⟨by rfl, ?_⟩) hHeld ?_ ?_
  rotate_left
  · rintro w' ⟨s0, s1, s2, s3, s4, s5, s6, s7, s8, s9, s10, s11, s12, s13, s14, s15, s16, s17, s18, s19⟩
    go_simp
    with_reducible rfl
  rotate_left
  · simp only [Act.put, List.setIfInBounds_toArray, List.set_cons_zero, List.set_cons_succ, i64_w, i32_w]
    rfl
  refine take_ (i := 24) (N := some 62) (v := ?_) (a' := ?_) #[true, true, true, true, true, true, true, true, true, true, true, true, true, true, true, true, true, true, true, true, false, true, true, true, true, true, false, true, false, false, false, false, false, false, false, false] rfl rfl (by kernel_rfl) (fun _ _ _ h => h) (Or.inl ⟨by rfl, ?_⟩) hHeld ?_ ?_
  rotate_left
  · rintro w' ⟨s0, s1, s2, s3, s4, s5, s6, s7, s8, s9, s10, s11, s12, s13, s14, s15, s16, s17, s18, s19⟩
    go_simp
    with_reducible rfl
  rotate_left
  · simp only [Act.put, List.setIfInBounds_toArray, List.set_cons_zero, List.set_cons_succ, i64_w, i32_w]
    rfl
  refine take_ (i := 26) (N := some 64) (v := ?_) (a' := ?_) #[true, true, true, true, true, true, true, true, true, true, true, true, true, true, true, true, true, true, true, true, false, true, true, true, true, true, true, true, false, false, false, false, false, false, false, false] rfl rfl (by kernel_rfl) (fun _ _ _ h => h) (Or.inl ⟨by rfl, ?_⟩) hHeld ?_ ?_
  rotate_left
  · rintro w' ⟨s0, s1, s2, s3, s4, s5, s6, s7, s8, s9, s10, s11, s12, s13, s14, s15, s16, s17, s18, s19⟩
    go_simp
    with_reducible rfl
  rotate_left
  · simp only [Act.put, List.setIfInBounds_toArray, List.set_cons_zero, List.set_cons_succ, i64_w, i32_w]
    rfl
  refine take_ (i := 28) (N := some 66) (v := ?_) (a' := ?_) #[true, true, true, true, true, true, true, true, true, true, true, true, true, true, true, true, true, true, true, true, false, true, true, true, true, true, true, true, true, false, false, false, false, false, false, false] rfl rfl (by kernel_rfl) (fun _ _ _ h => h) (Or.inl ⟨by rfl, ?_⟩) hHeld ?_ ?_
  rotate_left
  · rintro w' ⟨s0, s1, s2, s3, s4, s5, s6, s7, s8, s9, s10, s11, s12, s13, s14, s15, s16, s17, s18, s19⟩
    go_simp
    with_reducible rfl
  rotate_left
  · simp only [Act.put, List.setIfInBounds_toArray, List.set_cons_zero, List.set_cons_succ, i64_w, i32_w]
    rfl
  refine pure_ (i := 29) (N := some 67) (v := ?_) (a' := ?_) #[true, true, true, true, true, true, true, true, true, true, true, true, true, true, true, true, true, true, true, true, false, true, true, true, true, true, true, true, true, true, false, false, false, false, false, false] rfl rfl (by kernel_rfl) (fun _ _ _ h => h) (Or.inl ⟨by rfl, ?_⟩) ?_ ?_
  rotate_left
  · intro w'
    go_simp
    with_reducible rfl
  rotate_left
  · simp only [Act.put, List.setIfInBounds_toArray, List.set_cons_zero, List.set_cons_succ, i64_w, i32_w]
    rfl
  refine pure_ (i := 30) (N := some 68) (v := ?_) (a' := ?_) #[true, true, true, true, true, true, true, true, true, true, true, true, true, true, true, true, true, true, true, true, false, true, true, true, true, true, true, true, true, true, true, false, false, false, false, false] rfl rfl (by kernel_rfl) (fun _ _ _ h => h) (Or.inl ⟨by rfl, ?_⟩) ?_ ?_
  rotate_left
  · intro w'
    go_simp
    with_reducible rfl
  rotate_left
  · simp only [Act.put, List.setIfInBounds_toArray, List.set_cons_zero, List.set_cons_succ, i64_w, i32_w]
    rfl
  refine take_ (i := 31) (N := some 69) (v := ?_) (a' := ?_) #[true, true, true, true, true, true, true, true, true, true, true, true, true, true, true, true, true, true, true, true, false, true, true, true, true, true, true, true, true, true, true, true, false, false, false, false] rfl rfl (by kernel_rfl) (fun _ _ _ h => h) (Or.inl ⟨by rfl, ?_⟩) hHeld ?_ ?_
  rotate_left
  · rintro w' ⟨s0, s1, s2, s3, s4, s5, s6, s7, s8, s9, s10, s11, s12, s13, s14, s15, s16, s17, s18, s19⟩
    go_simp
    with_reducible rfl
  rotate_left
  · simp only [Act.put, List.setIfInBounds_toArray, List.set_cons_zero, List.set_cons_succ, i64_w, i32_w]
    rfl
  refine one_ (i := 20) (N := some 58) #[true, true, true, true, true, true, true, true, true, true, true, true, true, true, true, true, true, true, true, true, true, true, true, true, true, true, true, true, true, true, true, true, false, false, false, false] rfl rfl (by kernel_rfl) (by decide) (fun K hK => ?_)
  refine goes_ Try.func19 (by kernel_rfl) rfl #[.agg #[.int .u64 x0, .int .u64 x1, .int .u64 x2, .int .u32 x3], .agg #[.bool a0, .bool a1, .bool a2, .bool a3]] (by rfl) rfl rfl (by simp only [List.map_toArray, List.map_cons, List.map_nil]; rfl) ?_
  with_reducible refine (field_PrintWide.calls 100 x0 x1 x2 x3 a0 a1 a2 a3 _ _ FP.out).mono ?_
  rintro e w5 ⟨rfl, hb⟩
  refine ⟨_, rfl, ?_⟩
  have H8b := Aside0.mk (blk_below (blk_drew H8a.out) hb); have H0b := Aside0.mk (blk_below (blk_drew H0a.out) hb); have H5b := Aside0.mk (blk_below (blk_drew H5a.out) hb); have H4b := Aside0.mk (blk_below (blk_drew H4a.out) hb); have H7b := Aside0.mk (blk_below (blk_drew H7a.out) hb); have HBb := Aside0.mk (below_step (below_drew1 HBa.out) hb); clear hb
  refine hK.out _ _ ⟨(blk_cell H8b.out 0), (blk_cell H8b.out 1), (blk_cell H8b.out 2), (blk_cell H8b.out 3), (blk_cell H0b.out 0), (blk_cell H0b.out 1), (blk_cell H0b.out 2), (blk_cell H0b.out 3), (blk_cell H5b.out 0), (blk_cell H5b.out 1), (blk_cell H5b.out 2), (blk_cell H5b.out 3), (blk_cell H4b.out 0), (blk_cell H4b.out 1), (blk_cell H4b.out 2), (blk_cell H4b.out 3), (blk_cell H7b.out 0), (blk_cell H7b.out 1), (blk_cell H7b.out 2), (blk_cell H7b.out 3)⟩ (fun hHeld => ?_)
  clear hK K
  refine norm_ (a' := ?_) ?_ ?_
  rotate_left
  · show Act.put _ (some 58) _ = _
    simp only [Act.put, List.setIfInBounds_toArray, List.set_cons_zero, List.set_cons_succ, i64_w, i32_w]
    rfl
  refine one_ (i := 32) (N := some 70) #[true, true, true, true, true, true, true, true, true, true, true, true, true, true, true, true, true, true, true, true, true, true, true, true, true, true, true, true, true, true, true, true, true, false, false, false] rfl rfl (by kernel_rfl) (by decide) (fun K hK => ?_)
  refine goes_ Try.func20 (by kernel_rfl) rfl #[.agg #[.int .u64 x0, .int .u64 x1, .int .u64 x2, .int .u64 x3], .agg #[.bool a0, .bool a1, .bool a2, .bool a3]] (by rfl) rfl rfl (by simp only [List.map_toArray, List.map_cons, List.map_nil]; rfl) ?_
  with_reducible refine (FQ.out _).mono ?_
  rintro e w6 ⟨rfl, hb⟩
  refine ⟨_, rfl, ?_⟩
  have H8c := Aside0.mk (blk_below H8b.out hb); have H0c := Aside0.mk (blk_below H0b.out hb); have H5c := Aside0.mk (blk_below H5b.out hb); have H4c := Aside0.mk (blk_below H4b.out hb); have H7c := Aside0.mk (blk_below H7b.out hb); have HBc := Aside0.mk (below_step HBb.out hb); clear hb
  refine hK.out _ _ ⟨(blk_cell H8c.out 0), (blk_cell H8c.out 1), (blk_cell H8c.out 2), (blk_cell H8c.out 3), (blk_cell H0c.out 0), (blk_cell H0c.out 1), (blk_cell H0c.out 2), (blk_cell H0c.out 3), (blk_cell H5c.out 0), (blk_cell H5c.out 1), (blk_cell H5c.out 2), (blk_cell H5c.out 3), (blk_cell H4c.out 0), (blk_cell H4c.out 1), (blk_cell H4c.out 2), (blk_cell H4c.out 3), (blk_cell H7c.out 0), (blk_cell H7c.out 1), (blk_cell H7c.out 2), (blk_cell H7c.out 3)⟩ (fun hHeld => ?_)
  clear hK K
  refine norm_ (a' := ?_) ?_ ?_
  rotate_left
  · show Act.put _ (some 70) _ = _
    simp only [Act.put, List.setIfInBounds_toArray, List.set_cons_zero, List.set_cons_succ, i64_w, i32_w]
    rfl
  refine pure_ (i := 33) (N := some 71) (v := ?_) (a' := ?_) #[true, true, true, true, true, true, true, true, true, true, true, true, true, true, true, true, true, true, true, true, true, true, true, true, true, true, true, true, true, true, true, true, true, true, false, false] rfl rfl (by kernel_rfl) (fun _ _ _ h => h) (Or.inl ⟨by rfl, ?_⟩) ?_ ?_
  rotate_left
  · intro w'
    go_simp
    with_reducible rfl
  rotate_left
  · simp only [Act.put, List.setIfInBounds_toArray, List.set_cons_zero, List.set_cons_succ, i64_w, i32_w]
    rfl
  refine pure_ (i := 34) (N := some 72) (v := ?_) (a' := ?_) #[true, true, true, true, true, true, true, true, true, true, true, true, true, true, true, true, true, true, true, true, true, true, true, true, true, true, true, true, true, true, true, true, true, true, true, false] rfl rfl (by kernel_rfl) (fun _ _ _ h => h) (Or.inl ⟨by rfl, ?_⟩) ?_ ?_
  rotate_left
  · intro w'
    go_simp
    with_reducible rfl
  rotate_left
  · simp only [Act.put, List.setIfInBounds_toArray, List.set_cons_zero, List.set_cons_succ, i64_w, i32_w]
    rfl
  refine pure_ (i := 35) (N := some 6) (v := ?_) (a' := ?_) #[true, true, true, true, true, true, true, true, true, true, true, true, true, true, true, true, true, true, true, true, true, true, true, true, true, true, true, true, true, true, true, true, true, true, true, true] rfl rfl (by kernel_rfl) (fun _ _ _ h => h) (Or.inl ⟨by rfl, ?_⟩) ?_ ?_
  rotate_left
  · intro w'
    go_simp
    with_reducible rfl
  rotate_left
  · simp only [Act.put, List.setIfInBounds_toArray, List.set_cons_zero, List.set_cons_succ, i64_w, i32_w]
    rfl
  refine done_ (by kernel_rfl) ?_
  go_wp2
  go_ret
  exact ⟨rfl, HBc.out⟩
theorem FieldWide (s : ByteArray) (q : S44) (cq : Array Value) (x : S47) (cx : Array Value) (w : World) (hs : s.size ≤ 140737488351232) (hKq : k44.K w q cq.toList) (hq : (True) ∧ (True) ∧ (True) ∧ (True)) (hKx : k47.K w x cx.toList)
    (hok : ((Lit.int .u64 x.f0).wf = true) ∧ ((Lit.int .u64 x.f1).wf = true) ∧ ((Lit.int .u64 x.f2).wf = true) ∧ ((Lit.int .u32 x.f3).wf = true)) :
    Calls Try.prog 5 #[.string s, .agg cq, .agg cx] w fun e w' => e = .returned (.bool true) ∧ Below w.heap.size w w' := by
  have h1 := k44_open hKq
  have h2 := k47_open hKx
  obtain rfl : cq = #[.bool q.f0, .bool q.f1, .bool q.f2, .bool q.f3] := Array.toList_inj.1 (by rw [h1])
  obtain rfl : cx = #[.int .u64 x.f0, .int .u64 x.f1, .int .u64 x.f2, .int .u32 x.f3] := Array.toList_inj.1 (by rw [h2])
  have k0 := wf_u64 hok.1; have k1 := wf_u64 hok.2.1; have k2 := wf_u64 hok.2.2.1; have k3 := wf_u32 hok.2.2.2
  exact wide_walk s q.f0 q.f1 q.f2 q.f3 x.f0 x.f1 x.f2 x.f3 w (by omega) (by omega) (by omega) (by omega)
end Go.Proofs.Ytloojhhjljneeaa.Walk
