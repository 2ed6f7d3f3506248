/- FieldBack: what is printed is parsed as it was: the walk through the law's own code. Printed by genback14.py. -/
import Derived.Test.YtloojhhjljneeaaDoorMg2
import Derived.Test.YtloojhhjljneeaaDoorMg1
import Derived.Test.YtloojhhjljneeaaDoorPx1
import Derived.Test.YtloojhhjljneeaaDoorPx10
import Derived.Test.YtloojhhjljneeaaDoorPx11
import Derived.Test.YtloojhhjljneeaaDoorPx12
import Derived.Test.YtloojhhjljneeaaDoorPx13
import Derived.Test.YtloojhhjljneeaaDoorPx6
import Derived.Test.YtloojhhjljneeaaDoorPx8
namespace Go.Proofs.YtloojhhjljneeaaDoor.Walk
set_option linter.unusedVariables false
set_option linter.unusedSimpArgs false
open Go Go.RowKit Go.Proofs.YtloojhhjljneeaaDoor.P Go.Proofs.YtloojhhjljneeaaDoor.B Go.Proofs.YtloojhhjljneeaaDoor.Num Go.Proofs.YtloojhhjljneeaaDoor.Cur Go.Proofs.YtloojhhjljneeaaDoor.Wd Go.Proofs.YtloojhhjljneeaaDoor.Ut Go.Proofs.YtloojhhjljneeaaDoor.Bk Go.Proofs.YtloojhhjljneeaaDoorW.PrintWords Go.Proofs.YtloojhhjljneeaaDoorW.PrintLast Go.Proofs.YtloojhhjljneeaaDoorW.PrintMore
theorem set4 {W : World} {g T : Nat} {a b c d x y z u : Value} (h : W.heap[g]? = some (.cells #[a, b, c, d] T (0, 0))) :
    ((((W.setCell ⟨g, 0, none⟩ x).setCell ⟨g, 1, none⟩ y).setCell ⟨g, 2, none⟩ z).setCell ⟨g, 3, none⟩ u).heap[g]? = some (.cells #[x, y, z, u] T (0, 0)) := by
  have := blk_set (blk_set (blk_set (blk_set h 0 x) 1 y) 2 z) 3 u
  exact this
theorem far4 {W : World} {g g2 T : Nat} {cs : Array Value} {x y z u : Value} (h : W.heap[g2]? = some (.cells cs T (0, 0))) (hne : g2 ≠ g) :
    ((((W.setCell ⟨g, 0, none⟩ x).setCell ⟨g, 1, none⟩ y).setCell ⟨g, 2, none⟩ z).setCell ⟨g, 3, none⟩ u).heap[g2]? = some (.cells cs T (0, 0)) :=
  blk_far (blk_far (blk_far (blk_far h (p := ⟨g, 0, none⟩) hne _) (p := ⟨g, 1, none⟩) hne _) (p := ⟨g, 2, none⟩) hne _) (p := ⟨g, 3, none⟩) hne _
theorem below4 {g : Nat} {w W : World} {x y z u : Value} (h : Below w.heap.size w W) (hg : w.heap.size ≤ g) : Below w.heap.size w ((((W.setCell ⟨g, 0, none⟩ x).setCell ⟨g, 1, none⟩ y).setCell ⟨g, 2, none⟩ z).setCell ⟨g, 3, none⟩ u) :=
  below_set (below_set (below_set (below_set h hg) hg) hg) hg
theorem wf_i32 {x : Int} (h : (Lit.int .i32 x).wf = true) : -2147483648 ≤ x ∧ x < 2147483648 := by
  simp [Lit.wf, IntKind.min, IntKind.max, IntKind.signed, IntKind.bits] at h; omega
theorem owner_print (u g : Nat) (hu : u < 4294967296) (hg : g < 4294967296) : field_PrintOwner.f 100 (u : Int) (g : Int) = some (strN ([1] ++ ([4] ++ (ofN 4 u ++ ([4] ++ (ofN 4 g ++ [])))))) := by
  have l4 : ∀ n, (strN (ofN 4 n)).size = 4 := fun n => by rw [strN_size, ofN_length]
  unfold field_PrintOwner.f
  rw [four_eq u (by omega) 100 (by omega), Option.bind_some, l4, if_pos (by omega), if_pos (by omega), four_eq g (by omega) 100 (by omega), Option.bind_some, l4, if_pos (by omega), show (⟨#[1, 4]⟩ : ByteArray) = strN [1, 4] from rfl, show (⟨#[4]⟩ : ByteArray) = strN [4] from rfl, strN_append, strN_append, strN_append]
  simp
set_option maxHeartbeats 8000000 in
set_option maxRecDepth 100000 in
theorem back_walk (x0 x1 x2 x3 : Int) (f : Int) (t0 t1 t2 : Int) (u gr : Nat) (path raw : ByteArray) (w : World) (b0 : 0 ≤ x0 ∧ x0 < 18446744073709551616) (b1 : 0 ≤ x1 ∧ x1 < 18446744073709551616) (b2 : 0 ≤ x2 ∧ x2 < 18446744073709551616) (b3 : 0 ≤ x3 ∧ x3 < 4294967296)
    (c0 : -2147483648 ≤ t0 ∧ t0 ≤ 2147483647) (c1 : -2147483648 ≤ t1 ∧ t1 ≤ 2147483647) (c2 : -2147483648 ≤ t2 ∧ t2 ≤ 2147483647) (hu : u < 4294967296) (hg : gr < 4294967296) (hT : Tabs w) :
    Calls Tryd.prog 4 #[.agg #[.int .u64 x0, .int .u64 x1, .int .u64 x2, .int .u32 x3], .agg #[.int .u8 f, .int .i32 t0, .int .i32 t1, .int .i32 t2], .int .u32 (u : Int), .int .u32 (gr : Int), .string path, .string raw] w fun e w' => e = .returned (.bool true) ∧ Below w.heap.size w w' := by
  have hu2 := Tryd.underlying33
  have hu3 := Tryd.underlying37
  have hu4 := Tryd.underlying35
  have HT := Aside0.mk hT
  have HA := Aside0.mk awake_true
  have HB0 := Aside0.mk (below_alloc (below_alloc (Below.refl w.heap.size w) (.cells #[.int .u64 x0, .int .u64 x1, .int .u64 x2, .int .u32 x3] 33)) (.cells #[.int .u8 f, .int .i32 t0, .int .i32 t1, .int .i32 t2] 35))
  have H60 := Aside0.mk (blk_alloc (heap_alloc_new w (.cells #[.int .u64 x0, .int .u64 x1, .int .u64 x2, .int .u32 x3] 33)) (.cells #[.int .u8 f, .int .i32 t0, .int .i32 t1, .int .i32 t2] 35))
  have H70 := Aside0.mk (heap_alloc_new (w.alloc (.cells #[.int .u64 x0, .int .u64 x1, .int .u64 x2, .int .u32 x3] 33)) (.cells #[.int .u8 f, .int .i32 t0, .int .i32 t1, .int .i32 t2] 35))
  simp only [World.size_alloc] at H70
  clear hT
  by_cases h1 : 2000 < raw.size
  · have d1 : decide (2000 < raw.size) = true := decide_eq_true h1
    go_enter Tryd.func4, Tryd.ntmps4
    go_wp2_with (go_at_call 5; refine (portmanteaulaw14_awake.calls 100 true _ HA.out).mono ?_; rintro e w1 ⟨rfl, hb⟩; have HB1 := Aside0.mk (below_step HB0.out hb); clear hb)
    go_ret
    exact ⟨rfl, HB1.out⟩
  have d1 : decide (2000 < raw.size) = false := decide_eq_false h1
  by_cases h2 : 2000 < path.size
  · have d2 : decide (2000 < path.size) = true := decide_eq_true h2
    go_enter Tryd.func4, Tryd.ntmps4
    go_wp2_with (go_at_call 5; refine (portmanteaulaw14_awake.calls 100 true _ HA.out).mono ?_; rintro e w1 ⟨rfl, hb⟩; have HB1 := Aside0.mk (below_step HB0.out hb); clear hb)
    go_ret
    exact ⟨rfl, HB1.out⟩
  have d2 : decide (2000 < path.size) = false := decide_eq_false h2
  go_enter Tryd.func4, Tryd.ntmps4
  go_upto_region 6 with (go_at_call 5; refine (portmanteaulaw14_awake.calls 100 true _ HA.out).mono ?_; rintro e w1 ⟨rfl, hb⟩; have HB1 := Aside0.mk (below_step HB0.out hb); have H61 := Aside0.mk (blk_below H60.out hb); have H71 := Aside0.mk (blk_below H70.out hb); clear hb)
  have hwp := wpr_eq true true true true x0 x1 x2 x3 b0 b1 b2 b3
  have hwb := wide_back x0 x1 x2 x3 b0 b1 b2 b3
  have hql := wprs_len [true, true, true, true] [x0, x1, x2, x3] 4
  have FW := Aside0.mk (fun W => progwide_calls (strN (wprs [true, true, true, true] [x0, x1, x2, x3] 4)) true true true true (by rw [strN_size]; omega) x0 x1 x2 x3 0 W (by rw [strN_data]; exact hwb))
  obtain ⟨Q, hQ⟩ : ∃ Q, strN (wprs [true, true, true, true] [x0, x1, x2, x3] 4) = Q := ⟨_, rfl⟩
  rw [hQ] at FW hwp
  have FP := Aside0.mk hwp
  clear hwp hwb hql hQ
  have H6a := Aside0.mk (blk_alloc H61.out (.cells #[.bool true, .bool true, .bool true, .bool true] 37))
  have H7a := Aside0.mk (blk_alloc H71.out (.cells #[.bool true, .bool true, .bool true, .bool true] 37))
  have H3a := Aside0.mk (heap_alloc_new w1 (.cells #[.bool true, .bool true, .bool true, .bool true] 37))
  have HBa := Aside0.mk (below_alloc HB1.out (.cells #[.bool true, .bool true, .bool true, .bool true] 37))
  generalize w1.alloc (.cells #[.bool true, .bool true, .bool true, .bool true] 37) = wa at H6a H7a H3a HBa ⊢
  have H6o := H6a
  have H7o := H7a
  have H3o := H3a
  have HBo := HBa
  replace H6a := Aside0.mk (blk_drew H6a.out)
  replace H7a := Aside0.mk (blk_drew H7a.out)
  replace H3a := Aside0.mk (blk_drew H3a.out)
  replace HBa := Aside0.mk (below_drew1 HBa.out)
  have HSa := Aside0.mk (show wa.heap.size ≤ wa.drew.heap.size by simp)
  clear H61 H71 HB1 H60 H70 HB0
  refine start_ (n := 11) (S := fun w' => w'.cell? ⟨w.heap.size, 0, none⟩ = some (.int .u64 x0) ∧ w'.cell? ⟨w.heap.size, 1, none⟩ = some (.int .u64 x1) ∧ w'.cell? ⟨w.heap.size, 2, none⟩ = some (.int .u64 x2) ∧ w'.cell? ⟨w.heap.size, 3, none⟩ = some (.int .u32 x3) ∧ w'.cell? ⟨w1.heap.size, 0, none⟩ = some (.bool true) ∧ w'.cell? ⟨w1.heap.size, 1, none⟩ = some (.bool true) ∧ w'.cell? ⟨w1.heap.size, 2, none⟩ = some (.bool true) ∧ w'.cell? ⟨w1.heap.size, 3, none⟩ = some (.bool true)) (ds := [9]) #[false, false, false, false, false, false, false, false, false, false, false] (by kernel_rfl) rfl rfl ⟨(blk_cell H6a.out 0), (blk_cell H6a.out 1), (blk_cell H6a.out 2), (blk_cell H6a.out 3), (blk_cell H3a.out 0), (blk_cell H3a.out 1), (blk_cell H3a.out 2), (blk_cell H3a.out 3)⟩ (fun hHeld => ?_)
  refine take_ (i := 0) (N := some 39) (v := ?_) (a' := ?_) #[true, false, false, false, false, false, false, false, false, false, false] rfl rfl (by kernel_rfl) (fun _ _ _ h => h) (Or.inl ⟨by rfl, ?_⟩) hHeld ?_ ?_
  rotate_left
  · rintro w' ⟨s0, s1, s2, s3, s4, s5, s6, s7⟩
    go_simp
    with_reducible rfl
  rotate_left
  · simp only [Act.put, List.setIfInBounds_toArray, List.set_cons_zero, List.set_cons_succ, i64_w, i32_w]
    rfl
  refine take_ (i := 1) (N := some 40) (v := ?_) (a' := ?_) #[true, true, false, false, false, false, false, false, false, false, false] rfl rfl (by kernel_rfl) (fun _ _ _ h => h) (Or.inl ⟨by rfl, ?_⟩) hHeld ?_ ?_
  rotate_left
  · rintro w' ⟨s0, s1, s2, s3, s4, s5, s6, s7⟩
    go_simp
    with_reducible rfl
  rotate_left
  · simp only [Act.put, List.setIfInBounds_toArray, List.set_cons_zero, List.set_cons_succ, i64_w, i32_w]
    rfl
  refine take_ (i := 3) (N := some 42) (v := ?_) (a' := ?_) #[true, true, false, true, false, false, false, false, false, false, false] rfl rfl (by kernel_rfl) (fun _ _ _ h => h) (Or.inl ⟨by rfl, ?_⟩) hHeld ?_ ?_
  rotate_left
  · rintro w' ⟨s0, s1, s2, s3, s4, s5, s6, s7⟩
    go_simp
    with_reducible rfl
  rotate_left
  · simp only [Act.put, List.setIfInBounds_toArray, List.set_cons_zero, List.set_cons_succ, i64_w, i32_w]
    rfl
  refine join_ (σ := Nat) 2 #[true, true, true, true, true, true, true, true, true, false, false] (fun g => [(41, .string Q), (43, .tuple #[.agg #[.int .u64 x0, .int .u64 x1, .int .u64 x2, .int .u32 x3], .int .i64 0]), (14, .pointer (some ⟨g, 0, none⟩)), (38, .tuple #[.agg #[.int .u64 x0, .int .u64 x1, .int .u64 x2, .int .u32 x3], .int .i64 0]), (44, .agg #[.int .u64 x0, .int .u64 x1, .int .u64 x2, .int .u32 x3]), (45, .int .i64 0)]) (fun g w' => w'.heap[w.heap.size]? = some (.cells #[.int .u64 x0, .int .u64 x1, .int .u64 x2, .int .u32 x3] 33 (0, 0)) ∧ w'.heap[w.heap.size + 1]? = some (.cells #[.int .u8 f, .int .i32 t0, .int .i32 t1, .int .i32 t2] 35 (0, 0)) ∧ w'.heap[w1.heap.size]? = some (.cells #[.bool true, .bool true, .bool true, .bool true] 37 (0, 0)) ∧ w'.heap[g]? = some (.cells #[.int .u64 0, .int .u64 0, .int .u64 0, .int .u32 0] 33 (0, 0)) ∧ Below w.heap.size w w' ∧ wa.heap.size ≤ g) ?_ ?_
  rotate_left
  · intro hCont
    refine two_ (i := 2) (j := 8) (Ni := some 41) (Nj := some 14) #[true, true, true, true, false, false, false, false, false, false, false] #[true, true, false, true, false, false, false, false, true, false, false] rfl rfl rfl rfl (by kernel_rfl) (by decide) (by decide) (fun K hK => ?_) (fun K hK => ?_)
    · skip
      refine goes_ Tryd.func11 (by kernel_rfl) rfl #[.agg #[.int .u64 x0, .int .u64 x1, .int .u64 x2, .int .u32 x3], .agg #[.bool true, .bool true, .bool true, .bool true]] (by rfl) rfl rfl (by simp only [List.map_toArray, List.map_cons, List.map_nil]; rfl) ?_
      with_reducible refine (field_PrintWide.calls 100 x0 x1 x2 x3 true true true true _ _ FP.out).mono ?_
      rintro e w2_ ⟨rfl, hb⟩
      refine ⟨_, rfl, ?_⟩
      have H6a2 := Aside0.mk (blk_below H6a.out hb); have H7a2 := Aside0.mk (blk_below H7a.out hb); have H3a2 := Aside0.mk (blk_below H3a.out hb); have HBa2 := Aside0.mk (below_step HBa.out hb); have HSa2 := Aside0.mk (Nat.le_trans HSa.out hb.size); clear hb
      refine hK.out _ _ ⟨(blk_cell H6a2.out 0), (blk_cell H6a2.out 1), (blk_cell H6a2.out 2), (blk_cell H6a2.out 3), (blk_cell H3a2.out 0), (blk_cell H3a2.out 1), (blk_cell H3a2.out 2), (blk_cell H3a2.out 3)⟩ (fun hHeld => ?_)
      clear hK K
      refine norm_ (a' := ?_) ?_ ?_
      rotate_left
      · show Act.put _ (some 41) _ = _
        simp only [Act.put, List.setIfInBounds_toArray, List.set_cons_zero, List.set_cons_succ, i64_w, i32_w]
        rfl
      refine two_ (i := 4) (j := 8) (Ni := some 43) (Nj := some 14) #[true, true, true, true, true, false, false, false, false, false, false] #[true, true, true, true, false, false, false, false, true, false, false] rfl rfl rfl rfl (by kernel_rfl) (by decide) (by decide) (fun K hK => ?_) (fun K hK => ?_)
      · skip
        refine goes_ Tryd.func10 (by kernel_rfl) rfl #[.string Q, .agg #[.bool true, .bool true, .bool true, .bool true]] (by rfl) rfl rfl (by simp only [List.map_toArray, List.map_cons, List.map_nil]; rfl) ?_
        with_reducible refine (FW.out _).mono ?_
        rintro e w4_ ⟨rfl, hb⟩
        refine ⟨_, rfl, ?_⟩
        have H6a24 := Aside0.mk (blk_below H6a2.out hb); have H7a24 := Aside0.mk (blk_below H7a2.out hb); have H3a24 := Aside0.mk (blk_below H3a2.out hb); have HBa24 := Aside0.mk (below_step HBa2.out hb); have HSa24 := Aside0.mk (Nat.le_trans HSa2.out hb.size); clear hb
        refine hK.out _ _ ⟨(blk_cell H6a24.out 0), (blk_cell H6a24.out 1), (blk_cell H6a24.out 2), (blk_cell H6a24.out 3), (blk_cell H3a24.out 0), (blk_cell H3a24.out 1), (blk_cell H3a24.out 2), (blk_cell H3a24.out 3)⟩ (fun hHeld => ?_)
        clear hK K
        refine norm_ (a' := ?_) ?_ ?_
        rotate_left
        · show Act.put _ (some 43) _ = _
          simp only [Act.put, List.setIfInBounds_toArray, List.set_cons_zero, List.set_cons_succ, i64_w, i32_w]
          rfl
        refine pure_ (i := 5) (N := some 38) (v := ?_) (a' := ?_) #[true, true, true, true, true, true, false, false, false, false, false] rfl rfl (by kernel_rfl) (fun _ _ _ h => h) (Or.inl ⟨by rfl, ?_⟩) ?_ ?_
        rotate_left
        · intro w'
          go_simp
          with_reducible rfl
        rotate_left
        · simp only [Act.put, List.setIfInBounds_toArray, List.set_cons_zero, List.set_cons_succ, i64_w, i32_w]
          rfl
        refine pure_ (i := 6) (N := some 44) (v := ?_) (a' := ?_) #[true, true, true, true, true, true, true, false, false, false, false] rfl rfl (by kernel_rfl) (fun _ _ _ h => h) (Or.inl ⟨by rfl, ?_⟩) ?_ ?_
        rotate_left
        · intro w'
          go_simp
          with_reducible rfl
        rotate_left
        · simp only [Act.put, List.setIfInBounds_toArray, List.set_cons_zero, List.set_cons_succ, i64_w, i32_w]
          rfl
        refine pure_ (i := 7) (N := some 45) (v := ?_) (a' := ?_) #[true, true, true, true, true, true, true, true, false, false, false] rfl rfl (by kernel_rfl) (fun _ _ _ h => h) (Or.inl ⟨by rfl, ?_⟩) ?_ ?_
        rotate_left
        · intro w'
          go_simp
          with_reducible rfl
        rotate_left
        · simp only [Act.put, List.setIfInBounds_toArray, List.set_cons_zero, List.set_cons_succ, i64_w, i32_w]
          rfl
        refine one_ (i := 8) (N := some 14) #[true, true, true, true, true, true, true, true, true, false, false] rfl rfl (by kernel_rfl) (by decide) (fun K hK => ?_)
        refine value_ (w1 := ?_) (v := ?_) (by rfl) rfl ?_ ?_
        rotate_left 2
        · go_simp
          constructor
          · rfl
          · rfl
        have H6a248 := Aside0.mk (blk_alloc H6a24.out (.cells #[.int .u64 0, .int .u64 0, .int .u64 0, .int .u32 0] 33)); have H7a248 := Aside0.mk (blk_alloc H7a24.out (.cells #[.int .u64 0, .int .u64 0, .int .u64 0, .int .u32 0] 33)); have H3a248 := Aside0.mk (blk_alloc H3a24.out (.cells #[.int .u64 0, .int .u64 0, .int .u64 0, .int .u32 0] 33)); have HNa248 := Aside0.mk (heap_alloc_new w4_ (.cells #[.int .u64 0, .int .u64 0, .int .u64 0, .int .u32 0] 33)); have HBa248 := Aside0.mk (below_alloc HBa24.out (.cells #[.int .u64 0, .int .u64 0, .int .u64 0, .int .u32 0] 33)); have HSa248 := Aside0.mk (show wa.heap.size ≤ (w4_.alloc (.cells #[.int .u64 0, .int .u64 0, .int .u64 0, .int .u32 0] 33)).heap.size by have := HSa24.out; first | (simp; done) | (simp; omega))
        refine hK.out _ _ ⟨(blk_cell H6a248.out 0), (blk_cell H6a248.out 1), (blk_cell H6a248.out 2), (blk_cell H6a248.out 3), (blk_cell H3a248.out 0), (blk_cell H3a248.out 1), (blk_cell H3a248.out 2), (blk_cell H3a248.out 3)⟩ (fun hHeld => ?_)
        clear hK K
        refine norm_ (a' := ?_) ?_ ?_
        rotate_left
        · show Act.put _ (some 14) _ = _
          simp only [Act.put, List.setIfInBounds_toArray, List.set_cons_zero, List.set_cons_succ, i64_w, i32_w]
          rfl
        exact norm_ (by simp only [putAll, Act.put, List.setIfInBounds_toArray, List.set_cons_zero, List.set_cons_succ]) (hCont (w4_.heap.size) _ ⟨H6a248.out, H7a248.out, H3a248.out, HNa248.out, HBa248.out, HSa24.out⟩)
      · skip
        refine value_ (w1 := ?_) (v := ?_) (by rfl) rfl ?_ ?_
        rotate_left 2
        · go_simp
          constructor
          · rfl
          · rfl
        have H6a28 := Aside0.mk (blk_alloc H6a2.out (.cells #[.int .u64 0, .int .u64 0, .int .u64 0, .int .u32 0] 33)); have H7a28 := Aside0.mk (blk_alloc H7a2.out (.cells #[.int .u64 0, .int .u64 0, .int .u64 0, .int .u32 0] 33)); have H3a28 := Aside0.mk (blk_alloc H3a2.out (.cells #[.int .u64 0, .int .u64 0, .int .u64 0, .int .u32 0] 33)); have HNa28 := Aside0.mk (heap_alloc_new w2_ (.cells #[.int .u64 0, .int .u64 0, .int .u64 0, .int .u32 0] 33)); have HBa28 := Aside0.mk (below_alloc HBa2.out (.cells #[.int .u64 0, .int .u64 0, .int .u64 0, .int .u32 0] 33)); have HSa28 := Aside0.mk (show wa.heap.size ≤ (w2_.alloc (.cells #[.int .u64 0, .int .u64 0, .int .u64 0, .int .u32 0] 33)).heap.size by have := HSa2.out; first | (simp; done) | (simp; omega))
        refine hK.out _ _ ⟨(blk_cell H6a28.out 0), (blk_cell H6a28.out 1), (blk_cell H6a28.out 2), (blk_cell H6a28.out 3), (blk_cell H3a28.out 0), (blk_cell H3a28.out 1), (blk_cell H3a28.out 2), (blk_cell H3a28.out 3)⟩ (fun hHeld => ?_)
        clear hK K
        refine norm_ (a' := ?_) ?_ ?_
        rotate_left
        · show Act.put _ (some 14) _ = _
          simp only [Act.put, List.setIfInBounds_toArray, List.set_cons_zero, List.set_cons_succ, i64_w, i32_w]
          rfl
        refine one_ (i := 4) (N := some 43) #[true, true, true, true, true, false, false, false, true, false, false] rfl rfl (by kernel_rfl) (by decide) (fun K hK => ?_)
        refine goes_ Tryd.func10 (by kernel_rfl) rfl #[.string Q, .agg #[.bool true, .bool true, .bool true, .bool true]] (by rfl) rfl rfl (by simp only [List.map_toArray, List.map_cons, List.map_nil]; rfl) ?_
        with_reducible refine (FW.out _).mono ?_
        rintro e w4_ ⟨rfl, hb⟩
        refine ⟨_, rfl, ?_⟩
        have H6a284 := Aside0.mk (blk_below H6a28.out hb); have H7a284 := Aside0.mk (blk_below H7a28.out hb); have H3a284 := Aside0.mk (blk_below H3a28.out hb); have HNa284 := Aside0.mk (blk_below HNa28.out hb); have HBa284 := Aside0.mk (below_step HBa28.out hb); have HSa284 := Aside0.mk (Nat.le_trans HSa28.out hb.size); clear hb
        refine hK.out _ _ ⟨(blk_cell H6a284.out 0), (blk_cell H6a284.out 1), (blk_cell H6a284.out 2), (blk_cell H6a284.out 3), (blk_cell H3a284.out 0), (blk_cell H3a284.out 1), (blk_cell H3a284.out 2), (blk_cell H3a284.out 3)⟩ (fun hHeld => ?_)
        clear hK K
        refine norm_ (a' := ?_) ?_ ?_
        rotate_left
        · show Act.put _ (some 43) _ = _
          simp only [Act.put, List.setIfInBounds_toArray, List.set_cons_zero, List.set_cons_succ, i64_w, i32_w]
          rfl
        refine pure_ (i := 5) (N := some 38) (v := ?_) (a' := ?_) #[true, true, true, true, true, true, false, false, true, false, false] rfl rfl (by kernel_rfl) (fun _ _ _ h => h) (Or.inl ⟨by rfl, ?_⟩) ?_ ?_
        rotate_left
        · intro w'
          go_simp
          with_reducible rfl
        rotate_left
        · simp only [Act.put, List.setIfInBounds_toArray, List.set_cons_zero, List.set_cons_succ, i64_w, i32_w]
          rfl
        refine pure_ (i := 6) (N := some 44) (v := ?_) (a' := ?_) #[true, true, true, true, true, true, true, false, true, false, false] rfl rfl (by kernel_rfl) (fun _ _ _ h => h) (Or.inl ⟨by rfl, ?_⟩) ?_ ?_
        rotate_left
        · intro w'
          go_simp
          with_reducible rfl
        rotate_left
        · simp only [Act.put, List.setIfInBounds_toArray, List.set_cons_zero, List.set_cons_succ, i64_w, i32_w]
          rfl
        refine pure_ (i := 7) (N := some 45) (v := ?_) (a' := ?_) #[true, true, true, true, true, true, true, true, true, false, false] rfl rfl (by kernel_rfl) (fun _ _ _ h => h) (Or.inl ⟨by rfl, ?_⟩) ?_ ?_
        rotate_left
        · intro w'
          go_simp
          with_reducible rfl
        rotate_left
        · simp only [Act.put, List.setIfInBounds_toArray, List.set_cons_zero, List.set_cons_succ, i64_w, i32_w]
          rfl
        exact norm_ (by simp only [putAll, Act.put, List.setIfInBounds_toArray, List.set_cons_zero, List.set_cons_succ]) (hCont (w2_.heap.size) _ ⟨H6a284.out, H7a284.out, H3a284.out, HNa284.out, HBa284.out, HSa2.out⟩)
    · skip
      refine value_ (w1 := ?_) (v := ?_) (by rfl) rfl ?_ ?_
      rotate_left 2
      · go_simp
        constructor
        · rfl
        · rfl
      have H6a8 := Aside0.mk (blk_drew (blk_alloc H6o.out (.cells #[.int .u64 0, .int .u64 0, .int .u64 0, .int .u32 0] 33))); have H7a8 := Aside0.mk (blk_drew (blk_alloc H7o.out (.cells #[.int .u64 0, .int .u64 0, .int .u64 0, .int .u32 0] 33))); have H3a8 := Aside0.mk (blk_drew (blk_alloc H3o.out (.cells #[.int .u64 0, .int .u64 0, .int .u64 0, .int .u32 0] 33))); have HNa8 := Aside0.mk (blk_drew (heap_alloc_new wa (.cells #[.int .u64 0, .int .u64 0, .int .u64 0, .int .u32 0] 33))); have HBa8 := Aside0.mk (below_drew1 (below_alloc HBo.out (.cells #[.int .u64 0, .int .u64 0, .int .u64 0, .int .u32 0] 33))); have HSa8 := Aside0.mk (show wa.heap.size ≤ (wa.alloc (.cells #[.int .u64 0, .int .u64 0, .int .u64 0, .int .u32 0] 33)).drew.heap.size by first | (simp; done) | (simp; omega))
      refine hK.out _ _ ⟨(blk_cell H6a8.out 0), (blk_cell H6a8.out 1), (blk_cell H6a8.out 2), (blk_cell H6a8.out 3), (blk_cell H3a8.out 0), (blk_cell H3a8.out 1), (blk_cell H3a8.out 2), (blk_cell H3a8.out 3)⟩ (fun hHeld => ?_)
      clear hK K
      refine norm_ (a' := ?_) ?_ ?_
      rotate_left
      · show Act.put _ (some 14) _ = _
        simp only [Act.put, List.setIfInBounds_toArray, List.set_cons_zero, List.set_cons_succ, i64_w, i32_w]
        rfl
      refine one_ (i := 2) (N := some 41) #[true, true, true, true, false, false, false, false, true, false, false] rfl rfl (by kernel_rfl) (by decide) (fun K hK => ?_)
      refine goes_ Tryd.func11 (by kernel_rfl) rfl #[.agg #[.int .u64 x0, .int .u64 x1, .int .u64 x2, .int .u32 x3], .agg #[.bool true, .bool true, .bool true, .bool true]] (by rfl) rfl rfl (by simp only [List.map_toArray, List.map_cons, List.map_nil]; rfl) ?_
      with_reducible refine (field_PrintWide.calls 100 x0 x1 x2 x3 true true true true _ _ FP.out).mono ?_
      rintro e w2_ ⟨rfl, hb⟩
      refine ⟨_, rfl, ?_⟩
      have H6a82 := Aside0.mk (blk_below H6a8.out hb); have H7a82 := Aside0.mk (blk_below H7a8.out hb); have H3a82 := Aside0.mk (blk_below H3a8.out hb); have HNa82 := Aside0.mk (blk_below HNa8.out hb); have HBa82 := Aside0.mk (below_step HBa8.out hb); have HSa82 := Aside0.mk (Nat.le_trans HSa8.out hb.size); clear hb
      refine hK.out _ _ ⟨(blk_cell H6a82.out 0), (blk_cell H6a82.out 1), (blk_cell H6a82.out 2), (blk_cell H6a82.out 3), (blk_cell H3a82.out 0), (blk_cell H3a82.out 1), (blk_cell H3a82.out 2), (blk_cell H3a82.out 3)⟩ (fun hHeld => ?_)
      clear hK K
      refine norm_ (a' := ?_) ?_ ?_
      rotate_left
      · show Act.put _ (some 41) _ = _
        simp only [Act.put, List.setIfInBounds_toArray, List.set_cons_zero, List.set_cons_succ, i64_w, i32_w]
        rfl
      refine one_ (i := 4) (N := some 43) #[true, true, true, true, true, false, false, false, true, false, false] rfl rfl (by kernel_rfl) (by decide) (fun K hK => ?_)
      refine goes_ Tryd.func10 (by kernel_rfl) rfl #[.string Q, .agg #[.bool true, .bool true, .bool true, .bool true]] (by rfl) rfl rfl (by simp only [List.map_toArray, List.map_cons, List.map_nil]; rfl) ?_
      with_reducible refine (FW.out _).mono ?_
      rintro e w4_ ⟨rfl, hb⟩
      refine ⟨_, rfl, ?_⟩
      have H6a824 := Aside0.mk (blk_below H6a82.out hb); have H7a824 := Aside0.mk (blk_below H7a82.out hb); have H3a824 := Aside0.mk (blk_below H3a82.out hb); have HNa824 := Aside0.mk (blk_below HNa82.out hb); have HBa824 := Aside0.mk (below_step HBa82.out hb); have HSa824 := Aside0.mk (Nat.le_trans HSa82.out hb.size); clear hb
      refine hK.out _ _ ⟨(blk_cell H6a824.out 0), (blk_cell H6a824.out 1), (blk_cell H6a824.out 2), (blk_cell H6a824.out 3), (blk_cell H3a824.out 0), (blk_cell H3a824.out 1), (blk_cell H3a824.out 2), (blk_cell H3a824.out 3)⟩ (fun hHeld => ?_)
      clear hK K
      refine norm_ (a' := ?_) ?_ ?_
      rotate_left
      · show Act.put _ (some 43) _ = _
        simp only [Act.put, List.setIfInBounds_toArray, List.set_cons_zero, List.set_cons_succ, i64_w, i32_w]
        rfl
      refine pure_ (i := 5) (N := some 38) (v := ?_) (a' := ?_) #[true, true, true, true, true, true, false, false, true, false, false] rfl rfl (by kernel_rfl) (fun _ _ _ h => h) (Or.inl ⟨by rfl, ?_⟩) ?_ ?_
      rotate_left
      · intro w'
        go_simp
        with_reducible rfl
      rotate_left
      · simp only [Act.put, List.setIfInBounds_toArray, List.set_cons_zero, List.set_cons_succ, i64_w, i32_w]
        rfl
      refine pure_ (i := 6) (N := some 44) (v := ?_) (a' := ?_) #[true, true, true, true, true, true, true, false, true, false, false] rfl rfl (by kernel_rfl) (fun _ _ _ h => h) (Or.inl ⟨by rfl, ?_⟩) ?_ ?_
      rotate_left
      · intro w'
        go_simp
        with_reducible rfl
      rotate_left
      · simp only [Act.put, List.setIfInBounds_toArray, List.set_cons_zero, List.set_cons_succ, i64_w, i32_w]
        rfl
      refine pure_ (i := 7) (N := some 45) (v := ?_) (a' := ?_) #[true, true, true, true, true, true, true, true, true, false, false] rfl rfl (by kernel_rfl) (fun _ _ _ h => h) (Or.inl ⟨by rfl, ?_⟩) ?_ ?_
      rotate_left
      · intro w'
        go_simp
        with_reducible rfl
      rotate_left
      · simp only [Act.put, List.setIfInBounds_toArray, List.set_cons_zero, List.set_cons_succ, i64_w, i32_w]
        rfl
      exact norm_ (by simp only [putAll, Act.put, List.setIfInBounds_toArray, List.set_cons_zero, List.set_cons_succ]) (hCont (wa.heap.size) _ ⟨H6a824.out, H7a824.out, H3a824.out, HNa824.out, HBa824.out, Nat.le_refl _⟩)
  rintro g9 w9 ⟨k6, k7, k3, kn, kb, ks⟩
  have H6z := Aside0.mk k6; have H7z := Aside0.mk k7; have H3z := Aside0.mk k3; have HNz := Aside0.mk kn; have HBz := Aside0.mk kb; have HSz := Aside0.mk ks; clear k6 k7 k3 kn kb ks
  have hHeld : w9.cell? ⟨w.heap.size, 0, none⟩ = some (.int .u64 x0) ∧ w9.cell? ⟨w.heap.size, 1, none⟩ = some (.int .u64 x1) ∧ w9.cell? ⟨w.heap.size, 2, none⟩ = some (.int .u64 x2) ∧ w9.cell? ⟨w.heap.size, 3, none⟩ = some (.int .u32 x3) ∧ w9.cell? ⟨w1.heap.size, 0, none⟩ = some (.bool true) ∧ w9.cell? ⟨w1.heap.size, 1, none⟩ = some (.bool true) ∧ w9.cell? ⟨w1.heap.size, 2, none⟩ = some (.bool true) ∧ w9.cell? ⟨w1.heap.size, 3, none⟩ = some (.bool true) := ⟨(blk_cell H6z.out 0), (blk_cell H6z.out 1), (blk_cell H6z.out 2), (blk_cell H6z.out 3), (blk_cell H3z.out 0), (blk_cell H3z.out 1), (blk_cell H3z.out 2), (blk_cell H3z.out 3)⟩
  have hn0 := blk_cell HNz.out 0; have hn1 := blk_cell HNz.out 1; have hn2 := blk_cell HNz.out 2; have hn3 := blk_cell HNz.out 3
  have hf0 := blk_frozen HNz.out 0; have hf1 := blk_frozen HNz.out 1; have hf2 := blk_frozen HNz.out 2; have hf3 := blk_frozen HNz.out 3
  refine norm_ (a' := ?_) ?_ ?_
  rotate_left
  · simp only [putAll, Act.put, List.setIfInBounds_toArray, List.set_cons_zero, List.set_cons_succ]
    rfl
  refine last_ (i := 9) (N := none) #[true, true, true, true, true, true, true, true, true, true, false] rfl rfl (by kernel_rfl) (by decide) (fun K hK => ?_)
  refine skip_ (w1 := ?_) (by rfl) rfl ?_ ?_
  rotate_left
  · go_simp
    rfl
  refine hK.out _ _ ?_
  clear hK K
  refine pure_ (i := 10) (N := some 15) (v := ?_) (a' := ?_) #[true, true, true, true, true, true, true, true, true, true, true] rfl rfl (by kernel_rfl) (fun _ _ _ h => h) (Or.inl ⟨by rfl, ?_⟩) ?_ ?_
  rotate_left
  · intro w'
    go_simp
    with_reducible rfl
  rotate_left
  · simp only [Act.put, List.setIfInBounds_toArray, List.set_cons_zero, List.set_cons_succ, i64_w, i32_w]
    rfl
  refine done_ (by kernel_rfl) ?_
  have l6 := blk_lt H6o.out
  have l7 := blk_lt H7o.out
  have l3 := blk_lt H3o.out
  have hks := HSz.out
  have hb0 := HBz.out.size
  have H6b := Aside0.mk (far4 (x := .int .u64 x0) (y := .int .u64 x1) (z := .int .u64 x2) (u := .int .u32 x3) H6z.out (show w.heap.size ≠ g9 by omega))
  have H7b := Aside0.mk (far4 (x := .int .u64 x0) (y := .int .u64 x1) (z := .int .u64 x2) (u := .int .u32 x3) H7z.out (show w.heap.size + 1 ≠ g9 by omega))
  have HNb := Aside0.mk (set4 (x := .int .u64 x0) (y := .int .u64 x1) (z := .int .u64 x2) (u := .int .u32 x3) HNz.out)
  have HBb := Aside0.mk (below4 (x := .int .u64 x0) (y := .int .u64 x1) (z := .int .u64 x2) (u := .int .u32 x3) HBz.out (show w.heap.size ≤ g9 by omega))
  have HG := Aside0.mk (show w.heap.size + 1 < g9 by omega)
  generalize (((w9.setCell ⟨g9, 0, none⟩ (.int .u64 x0)).setCell ⟨g9, 1, none⟩ (.int .u64 x1)).setCell ⟨g9, 2, none⟩ (.int .u64 x2)).setCell ⟨g9, 3, none⟩ (.int .u32 x3) = wb at H6b H7b HNb HBb ⊢
  clear hn0 hn1 hn2 hn3 hf0 hf1 hf2 hf3 H6z H7z H3z HNz HBz HSz H6o H7o H3o HBo H6a H7a H3a HBa HSa hHeld l6 l7 l3 hks hb0
  have hc7 := blk_cell H7b.out 0
  have hf7 := blk_frozen H7b.out 0
  go_upto_region 8 with (fail)
  have H6c := Aside0.mk (blk_far H6b.out (p := ⟨w.heap.size + 1, 0, none⟩) (show w.heap.size ≠ w.heap.size + 1 by omega) (.int .u8 7))
  have H7c := Aside0.mk (show (wb.setCell ⟨w.heap.size + 1, 0, none⟩ (.int .u8 7)).heap[w.heap.size + 1]? = some (.cells #[.int .u8 7, .int .i32 t0, .int .i32 t1, .int .i32 t2] 35 (0, 0)) from blk_set H7b.out 0 (.int .u8 7))
  have HNc := Aside0.mk (blk_far HNb.out (p := ⟨w.heap.size + 1, 0, none⟩) (show g9 ≠ w.heap.size + 1 by have := HG.out; omega) (.int .u8 7))
  have HBc := Aside0.mk (below_set (g := w.heap.size + 1) (j := 0) (v := .int .u8 7) HBb.out (by omega))
  generalize wb.setCell ⟨w.heap.size + 1, 0, none⟩ (.int .u8 7) = wc at H6c H7c HNc HBc ⊢
  clear H6b H7b HNb HBb hc7 hf7
  have hs := stamp_back t0 t1 t2 c0 c1 c2
  have hp1 := St.print_eq 7 (by omega) t0 t1 t2 false
  have hp2 := St.print_eq 7 (by omega) t0 t1 t2 true
  rw [show 7 % 8 = 7 from rfl] at hp1 hp2
  have hq1 := St.parse_eq (strN (St.prints 7 false t0 t1 t2)) false (by rw [strN_size]; have a := St.piece_le 7 false t0 0; have b := St.piece_le 7 false t1 1; have c := St.piece_le 7 false t2 2; simp [St.prints]; omega)
  have hq2 := St.parse_eq (strN (St.prints 7 true t0 t1 t2)) true (by rw [strN_size]; have a := St.piece_le 7 true t0 0; have b := St.piece_le 7 true t1 1; have c := St.piece_le 7 true t2 2; simp [St.prints]; omega)
  rw [strN_data, hs.1] at hq1
  rw [strN_data, hs.2] at hq2
  obtain ⟨s1, hs1⟩ : ∃ s1, strN (St.prints 7 false t0 t1 t2) = s1 := ⟨_, rfl⟩
  obtain ⟨s2, hs2⟩ : ∃ s2, strN (St.prints 7 true t0 t1 t2) = s2 := ⟨_, rfl⟩
  rw [hs1] at hp1 hq1
  rw [hs2] at hp2 hq2
  have P1 := Aside0.mk hp1
  have P2 := Aside0.mk hp2
  have Q1 := Aside0.mk hq1
  have Q2 := Aside0.mk hq2
  clear hs hp1 hp2 hq1 hq2 hs1 hs2
  have hy0 := blk_cell H7c.out 0
  have hy1 := blk_cell H7c.out 1
  have hy2 := blk_cell H7c.out 2
  have hy3 := blk_cell H7c.out 3
  go_upto_region 9 with (first
    | (go_at_call 13; (with_reducible refine (field_PrintStamp.calls 100 7 t0 t1 t2 false _ _ P1.out).mono ?_); rintro e w11 ⟨rfl, hb⟩; have HE1 := Aside0.mk hb; clear hb)
    | (go_at_call 12; (with_reducible refine (field_ParseStamp.calls 40 s1 false _ _ _ _ _ _ Q1.out).mono ?_); rintro e w12 ⟨rfl, hb⟩; have HE2 := Aside0.mk hb; clear hb))
  have H6d := Aside0.mk (blk_alloc (blk_below (blk_below H6c.out HE1.out) HE2.out) (.cells #[.int .u8 7, .int .i32 t0, .int .i32 t1, .int .i32 t2] 35))
  have H7d := Aside0.mk (blk_alloc (blk_below (blk_below H7c.out HE1.out) HE2.out) (.cells #[.int .u8 7, .int .i32 t0, .int .i32 t1, .int .i32 t2] 35))
  have HNd := Aside0.mk (blk_alloc (blk_below (blk_below HNc.out HE1.out) HE2.out) (.cells #[.int .u8 7, .int .i32 t0, .int .i32 t1, .int .i32 t2] 35))
  have H8d := Aside0.mk (heap_alloc_new w12 (.cells #[.int .u8 7, .int .i32 t0, .int .i32 t1, .int .i32 t2] 35))
  have HBd := Aside0.mk (below_alloc (below_step (below_step HBc.out HE1.out) HE2.out) (.cells #[.int .u8 7, .int .i32 t0, .int .i32 t1, .int .i32 t2] 35))
  generalize w12.alloc (.cells #[.int .u8 7, .int .i32 t0, .int .i32 t1, .int .i32 t2] 35) = wd at H6d H7d HNd H8d HBd ⊢
  obtain ⟨g8, hg8⟩ : ∃ g, w12.heap.size = g := ⟨_, rfl⟩
  rw [hg8] at H8d ⊢
  clear hg8 H6c H7c HNc HBc HE1 HE2 hy0 hy1 hy2 hy3
  have hy0 := blk_cell H7d.out 0
  have hy1 := blk_cell H7d.out 1
  have hy2 := blk_cell H7d.out 2
  have hy3 := blk_cell H7d.out 3
  go_upto_region 10 with (first
    | (go_at_call 13; (with_reducible refine (field_PrintStamp.calls 100 7 t0 t1 t2 true _ _ P2.out).mono ?_); rintro e w13 ⟨rfl, hb⟩; have HE3 := Aside0.mk hb; clear hb)
    | (go_at_call 12; (with_reducible refine (field_ParseStamp.calls 40 s2 true _ _ _ _ _ _ Q2.out).mono ?_); rintro e w14 ⟨rfl, hb⟩; have HE4 := Aside0.mk hb; clear hb))
  have H6e := Aside0.mk (blk_alloc (blk_below (blk_below H6d.out HE3.out) HE4.out) (.cells #[.int .u8 7, .int .i32 t0, .int .i32 0, .int .i32 0] 35))
  have H7e := Aside0.mk (blk_alloc (blk_below (blk_below H7d.out HE3.out) HE4.out) (.cells #[.int .u8 7, .int .i32 t0, .int .i32 0, .int .i32 0] 35))
  have HNe := Aside0.mk (blk_alloc (blk_below (blk_below HNd.out HE3.out) HE4.out) (.cells #[.int .u8 7, .int .i32 t0, .int .i32 0, .int .i32 0] 35))
  have H8e := Aside0.mk (blk_alloc (blk_below (blk_below H8d.out HE3.out) HE4.out) (.cells #[.int .u8 7, .int .i32 t0, .int .i32 0, .int .i32 0] 35))
  have H9e := Aside0.mk (heap_alloc_new w14 (.cells #[.int .u8 7, .int .i32 t0, .int .i32 0, .int .i32 0] 35))
  have HBe := Aside0.mk (below_alloc (below_step (below_step HBd.out HE3.out) HE4.out) (.cells #[.int .u8 7, .int .i32 t0, .int .i32 0, .int .i32 0] 35))
  generalize w14.alloc (.cells #[.int .u8 7, .int .i32 t0, .int .i32 0, .int .i32 0] 35) = we at H6e H7e HNe H8e H9e HBe ⊢
  obtain ⟨gz, hgz⟩ : ∃ g, w14.heap.size = g := ⟨_, rfl⟩
  rw [hgz] at H9e ⊢
  clear hgz H6d H7d HNd H8d HBd HE3 HE4 hy0 hy1 hy2 hy3
  have PO := Aside0.mk (owner_print u gr hu hg)
  have QO := Aside0.mk (owner_back u gr hu hg)
  obtain ⟨so, hso⟩ : ∃ so, strN ([1] ++ ([4] ++ (ofN 4 u ++ ([4] ++ (ofN 4 gr ++ []))))) = so := ⟨_, rfl⟩
  rw [hso] at PO QO
  clear hso
  have hpb := path_back path raw
  have hpl : (printW path raw).size ≤ 1000000 := by unfold printW; simp [strN_size, ofN_length]; omega
  have PP := Aside0.mk (progprint path raw (by omega) (by omega))
  have PQ := Aside0.mk (fun W hT => parse_calls (printW path raw) raw W hpl (by omega) hT)
  have PS := Aside0.mk (Sv.strays_f path (by omega) 3000 (by omega))
  rw [hpb] at PQ
  obtain ⟨sp, hsp⟩ : ∃ sp, printW path raw = sp := ⟨_, rfl⟩
  rw [hsp] at PP PQ
  clear hsp hpb hpl
  have q60 := blk_cell H6e.out 0
  cases hv : Lib.validD path.data.toList with
  | true =>
    rw [hv, if_pos rfl] at PQ
    rw [hv] at PS
    go_upto_region 13 with (first
      | (go_at_call 15; (with_reducible refine (field_PrintOwner.calls 100 _ _ _ _ PO.out).mono ?_); rintro e w15 ⟨rfl, hb⟩; have HB15 := Aside0.mk hb; clear hb)
      | (go_at_call 14; (with_reducible refine (field_ParseOwner.calls 9 _ _ _ _ _ QO.out).mono ?_); rintro e w16 ⟨rfl, hb⟩; have HB16 := Aside0.mk (below_step HB15.out hb); clear hb)
      | (go_at_call 8; (with_reducible refine (field_PrintPath.calls 3000 _ _ _ _ PP.out).mono ?_); rintro e w17 ⟨rfl, hb⟩; have HB17 := Aside0.mk (below_step HB16.out hb); clear hb)
      | (go_at_call 6; (with_reducible refine (PQ.out _ (Utf8Tabs_below (Utf8Tabs_below HT.out HBe.out) HB17.out)).mono ?_); rintro e w18 ⟨rfl, hb⟩; have HB18 := Aside0.mk (below_step HB17.out hb); clear hb)
      | (go_at_call 16; (with_reducible refine (portmanteauref10_Strays.calls 3000 _ _ _ PS.out).mono ?_); rintro e w19 ⟨rfl, ⟨nd, rfl⟩⟩))
    have HBx := Aside0.mk (pw_below_drewN HB18.out nd)
    have HBy := Aside0.mk (below_step HBe.out HBx.out)
    generalize w18.drewN nd = wx at HBx HBy ⊢
    have K6 := Aside0.mk (blk_below H6e.out HBx.out)
    have K7 := Aside0.mk (blk_below H7e.out HBx.out)
    have KN := Aside0.mk (blk_below HNe.out HBx.out)
    have K8 := Aside0.mk (blk_below H8e.out HBx.out)
    have K9 := Aside0.mk (blk_below H9e.out HBx.out)
    have a0 := blk_cell K6.out 0; have a1 := blk_cell K6.out 1; have a2 := blk_cell K6.out 2; have a3 := blk_cell K6.out 3
    have d0 := blk_cell K7.out 0; have d1 := blk_cell K7.out 1; have d2 := blk_cell K7.out 2; have d3 := blk_cell K7.out 3
    have e0 := blk_cell KN.out 0; have e1 := blk_cell KN.out 1; have e2 := blk_cell KN.out 2; have e3 := blk_cell KN.out 3
    have i0 := blk_cell K8.out 0; have i1 := blk_cell K8.out 1; have i2 := blk_cell K8.out 2; have i3 := blk_cell K8.out 3
    have n0 := blk_cell K9.out 0; have n1 := blk_cell K9.out 1; have n2 := blk_cell K9.out 2; have n3 := blk_cell K9.out 3
    clear H6e H7e HNe H8e H9e HBe HB15 HB16 HB17 HB18 PQ PO QO PP PS P1 P2 Q1 Q2 FW FP q60
    go_wp2
    all_goals go_ret
    all_goals refine ⟨?_, HBy.out⟩
    all_goals simp
  | false =>
    rw [hv, if_neg (by decide)] at PQ
    rw [hv] at PS
    go_upto_region 13 with (first
      | (go_at_call 15; (with_reducible refine (field_PrintOwner.calls 100 _ _ _ _ PO.out).mono ?_); rintro e w15 ⟨rfl, hb⟩; have HB15 := Aside0.mk hb; clear hb)
      | (go_at_call 14; (with_reducible refine (field_ParseOwner.calls 9 _ _ _ _ _ QO.out).mono ?_); rintro e w16 ⟨rfl, hb⟩; have HB16 := Aside0.mk (below_step HB15.out hb); clear hb)
      | (go_at_call 8; (with_reducible refine (field_PrintPath.calls 3000 _ _ _ _ PP.out).mono ?_); rintro e w17 ⟨rfl, hb⟩; have HB17 := Aside0.mk (below_step HB16.out hb); clear hb)
      | (go_at_call 6; (with_reducible refine (PQ.out _ (Utf8Tabs_below (Utf8Tabs_below HT.out HBe.out) HB17.out)).mono ?_); rintro e w18 ⟨rfl, hb⟩; have HB18 := Aside0.mk (below_step HB17.out hb); clear hb)
      | (go_at_call 16; (with_reducible refine (portmanteauref10_Strays.calls 3000 _ _ _ PS.out).mono ?_); rintro e w19 ⟨rfl, ⟨nd, rfl⟩⟩))
    have HBx := Aside0.mk (pw_below_drewN HB18.out nd)
    have HBy := Aside0.mk (below_step HBe.out HBx.out)
    generalize w18.drewN nd = wx at HBx HBy ⊢
    have K6 := Aside0.mk (blk_below H6e.out HBx.out)
    have K7 := Aside0.mk (blk_below H7e.out HBx.out)
    have KN := Aside0.mk (blk_below HNe.out HBx.out)
    have K8 := Aside0.mk (blk_below H8e.out HBx.out)
    have K9 := Aside0.mk (blk_below H9e.out HBx.out)
    have a0 := blk_cell K6.out 0; have a1 := blk_cell K6.out 1; have a2 := blk_cell K6.out 2; have a3 := blk_cell K6.out 3
    have d0 := blk_cell K7.out 0; have d1 := blk_cell K7.out 1; have d2 := blk_cell K7.out 2; have d3 := blk_cell K7.out 3
    have e0 := blk_cell KN.out 0; have e1 := blk_cell KN.out 1; have e2 := blk_cell KN.out 2; have e3 := blk_cell KN.out 3
    have i0 := blk_cell K8.out 0; have i1 := blk_cell K8.out 1; have i2 := blk_cell K8.out 2; have i3 := blk_cell K8.out 3
    have n0 := blk_cell K9.out 0; have n1 := blk_cell K9.out 1; have n2 := blk_cell K9.out 2; have n3 := blk_cell K9.out 3
    clear H6e H7e HNe H8e H9e HBe HB15 HB16 HB17 HB18 PQ PO QO PP PS P1 P2 Q1 Q2 FW FP q60
    go_wp2
    all_goals go_ret
    all_goals refine ⟨?_, HBy.out⟩
    all_goals simp
theorem FieldBack (x : S33) (cx : Array Value) (y : S35) (cy : Array Value) (u g : Int) (path raw : ByteArray) (w : World) (hKx : k33.K w x cx.toList)
    (hx : ((Lit.int .u64 x.f0).wf = true) ∧ ((Lit.int .u64 x.f1).wf = true) ∧ ((Lit.int .u64 x.f2).wf = true) ∧ ((Lit.int .u32 x.f3).wf = true)) (hKy : k35.K w y cy.toList)
    (hy : ((Lit.int .u8 y.f0).wf = true) ∧ ((Lit.int .i32 y.f1).wf = true) ∧ ((Lit.int .i32 y.f2).wf = true) ∧ ((Lit.int .i32 y.f3).wf = true)) (hu : (Lit.int .u32 u).wf = true) (hg : (Lit.int .u32 g).wf = true)
    (hp : path.size ≤ 140737488351232) (hr : raw.size ≤ 140737488351232) (hT : Tabs w) :
    Calls Tryd.prog 4 #[.agg cx, .agg cy, .int .u32 u, .int .u32 g, .string path, .string raw] w fun e w' => e = .returned (.bool true) ∧ Below w.heap.size w w' := by
  have h1 := k33_open hKx
  have h2 := k35_open hKy
  obtain rfl : cx = #[.int .u64 x.f0, .int .u64 x.f1, .int .u64 x.f2, .int .u32 x.f3] := Array.toList_inj.1 (by rw [h1])
  obtain rfl : cy = #[.int .u8 y.f0, .int .i32 y.f1, .int .i32 y.f2, .int .i32 y.f3] := Array.toList_inj.1 (by rw [h2])
  have k0 := wf_u64 hx.1; have k1 := wf_u64 hx.2.1; have k2 := wf_u64 hx.2.2.1; have k3 := wf_u32 hx.2.2.2
  have i1 := wf_i32 hy.2.1; have i2 := wf_i32 hy.2.2.1; have i3 := wf_i32 hy.2.2.2
  have ku := wf_u32 hu; have kg := wf_u32 hg
  have h := back_walk x.f0 x.f1 x.f2 x.f3 y.f0 y.f1 y.f2 y.f3 u.toNat g.toNat path raw w (by omega) (by omega) (by omega) (by omega) (by omega) (by omega) (by omega) (by omega) (by omega) hT
  rwa [show ((u.toNat : Nat) : Int) = u by omega, show ((g.toNat : Nat) : Int) = g by omega] at h
end Go.Proofs.YtloojhhjljneeaaDoor.Walk
