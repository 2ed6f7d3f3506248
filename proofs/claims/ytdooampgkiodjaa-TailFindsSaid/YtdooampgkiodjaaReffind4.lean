import Derived.Test.YtdooampgkiodjaaReffind1
import Derived.Deep.DeepCutAuto
import Derived.Test.YtdooampgkiodjaaPx14
import Derived.Test.YtdooampgkiodjaaPx15
import Derived.Test.YtdooampgkiodjaaPx16
namespace Go.Proofs.Ytdooampgkiodjaa.P
set_option linter.unusedVariables false
set_option linter.unusedSimpArgs false
open Go Go.RowKit Go.Proofs.Ytdooampgkiodjaa.B Go.Proofs.YtdooampgkiodjaaW.PrintWords Go.Proofs.YtdooampgkiodjaaW.PrintLast Go.Proofs.YtdooampgkiodjaaW.PrintMore
set_option maxHeartbeats 16000000 in
set_option maxRecDepth 100000 in
theorem find_wide (s : ByteArray) (a : Nat) (ha : a + 22 ≤ s.size) (hs : s.size ≤ 5000) (w : World) (fp : portmanteauref18_place.f 6000 s = some (a : Int)) (n0 n1 n2 n3 n4 n5 n6 n7 : Nat) (fr : portmanteauref17_Row.f 200 (s.extract a s.size) [4, 2, 2, 2, 2, 4, 4, 2] = some [(n0 : Int), (n1 : Int), (n2 : Int), (n3 : Int), (n4 : Int), (n5 : Int), (n6 : Int), (n7 : Int)]) (h1 : n1 = 0) (h2 : n2 = 0) (h3 : n3 = n4) (hask : ¬ (n4 ≠ 65535 ∧ n5 ≠ 4294967295 ∧ n6 ≠ 4294967295)) (hhi : 20 ≤ a) (m0 m1 m2 m3 : Nat) (fl : portmanteauref17_Row.f 200 (s.extract (a - 20) s.size) [4, 4, 8, 4] = some [(m0 : Int), (m1 : Int), (m2 : Int), (m3 : Int)]) (g0 : m0 = 117853008) (g1 : m1 = 0) (g3 : m3 = 1) (g2 : m2 ≤ a - 20) (hlong : 56 ≤ a - 20 - m2) (q0 q1 q2 q3 q4 q5 q6 q7 q8 q9 : Nat) (fw : portmanteauref17_Row.f 200 (s.extract m2 s.size) [4, 8, 2, 2, 4, 4, 8, 8, 8, 8] = some [(q0 : Int), (q1 : Int), (q2 : Int), (q3 : Int), (q4 : Int), (q5 : Int), (q6 : Int), (q7 : Int), (q8 : Int), (q9 : Int)]) (e0 : q0 = 101075792) (e1 : q1 = a - 20 - m2 - 12) (e4 : q4 = 0) (e5 : q5 = 0) (e6 : q6 = q7) (hag : ((n4 = 65535 ∨ n4 = q7) ∧ (n5 = 4294967295 ∨ n5 = q8) ∧ (n6 = 4294967295 ∨ n6 = q9))) :
    Calls Try.prog 9 #[.string s] w fun e w' => e = .returned (.tuple #[.agg #[.int .i64 (m2 : Int), .int .u64 (q7 : Int), .int .u64 (q8 : Int), .int .u64 (q9 : Int), .string (s.extract (a + 22) s.size), .bool true], .int .i64 0]) ∧ Below w.heap.size w w' := by
  have HAG := Aside0.mk hag
  clear hag
  have FW := Aside0.mk fw
  have HLONG := Aside0.mk hlong
  clear fw hlong
  have HG2 := Aside0.mk g2
  clear g2
  have FL := Aside0.mk fl
  clear fl
  have HASK := Aside0.mk hask
  clear hask
  have FP := Aside0.mk fp
  have FR := Aside0.mk fr
  clear fp fr
  have HZ := Aside0.mk (below_alloc (Below.refl w.heap.size w) (.cells #[.int .i64 0, .int .u64 0, .int .u64 0, .int .u64 0, .string (⟨#[]⟩ : ByteArray), .bool false] 29))
  have HQZ := Aside0.mk (heap_alloc_new w (.cells #[.int .i64 0, .int .u64 0, .int .u64 0, .int .u64 0, .string (⟨#[]⟩ : ByteArray), .bool false] 29))
  obtain ⟨gr, hgr⟩ : ∃ g, w.heap.size = g := ⟨_, rfl⟩
  have HGR := Aside0.mk hgr
  go_enter Try.func9, Try.ntmps9
  go_upto_region 2 with (go_at_call 20; (with_reducible refine (portmanteauref18_place.calls 6000 s _ _ FP.out).mono ?_); rintro e' w1 ⟨rfl, hb⟩; have HB1 := Aside0.mk (below_step HZ.out hb); have HQ1 := Aside0.mk (blk_below HQZ.out hb); clear hb)
  rw [hgr] at HQ1
  clear HZ HQZ
  have p0 : decide ((a : Int) < 0) = false := decide_eq_false (by omega)
  have p1 := eq_true (show (0 : Int) ≤ (a : Int) by omega)
  have p2 := eq_true (show (a : Int) ≤ (s.size : Int) by omega)
  have p3 := eq_true (show a ≤ s.size by omega)
  go_upto_region 4 with (fail)
  refine start_ (n := 6) (S := fun w' => True) (ds := []) #[false, false, false, false, false, false] (by as_aux_lemma => kernel_rfl) rfl rfl trivial (fun hHeld => ?_)
  refine pure_ (i := 0) (N := some 15) (v := ?_) (a' := ?_) #[true, false, false, false, false, false] rfl rfl (by as_aux_lemma => kernel_rfl) (fun _ _ _ h => h) (Or.inl ⟨by rfl, ?_⟩) ?_ ?_
  rotate_left
  · intro w'
    go_simp
    with_reducible rfl
  rotate_left
  · simp only [Act.put, List.setIfInBounds_toArray, List.set_cons_zero, List.set_cons_succ, i64_w, i32_w]
    rfl
  refine pure_ (i := 1) (N := some 16) (v := ?_) (a' := ?_) #[true, true, false, false, false, false] rfl rfl (by as_aux_lemma => kernel_rfl) (fun _ _ _ h => h) (Or.inl ⟨by rfl, ?_⟩) ?_ ?_
  rotate_left
  · intro w'
    go_simp
    with_reducible rfl
  rotate_left
  · simp only [Act.put, List.setIfInBounds_toArray, List.set_cons_zero, List.set_cons_succ, i64_w, i32_w]
    rfl
  refine pure_ (i := 2) (N := some 17) (v := ?_) (a' := ?_) #[true, true, true, false, false, false] rfl rfl (by as_aux_lemma => kernel_rfl) (fun _ _ _ h => h) (Or.inl ⟨by rfl, ?_⟩) ?_ ?_
  rotate_left
  · intro w'
    go_simp
    with_reducible rfl
  rotate_left
  · simp only [Act.put, List.setIfInBounds_toArray, List.set_cons_zero, List.set_cons_succ, i64_w, i32_w]
    rfl
  refine one_ (i := 3) (N := some 18) #[true, true, true, true, false, false] rfl rfl (by as_aux_lemma => kernel_rfl) (by decide) (fun K hK => ?_)
  refine goes_ Try.func22 (by as_aux_lemma => kernel_rfl) rfl #[] (by rfl) rfl rfl (by simp only [List.map_toArray, List.map_nil]) ?_
  with_reducible refine (ends_of _).mono ?_
  rintro e' wx ⟨Ax, cx, rfl, hCx, hcx, hb2⟩
  refine ⟨_, rfl, ?_⟩
  have HBx := Aside0.mk (below_step (below_drew1 HB1.out) hb2)
  have HQ1x := Aside0.mk (blk_below (blk_drew HQ1.out) hb2)
  refine hK.out _ _ trivial (fun hHeld => ?_)
  clear hK K
  refine norm_ (a' := ?_) ?_ ?_
  rotate_left
  · show Act.put _ (some 18) _ = _
    simp only [Act.put, List.setIfInBounds_toArray, List.set_cons_zero, List.set_cons_succ, i64_w, i32_w]
    rfl
  refine one_ (i := 4) (N := some 19) #[true, true, true, true, true, false] rfl rfl (by as_aux_lemma => kernel_rfl) (by decide) (fun K hK => ?_)
  refine goes_ Try.func21 (by as_aux_lemma => kernel_rfl) rfl #[.string (s.extract a s.size), .slice Ax ([4, 2, 2, 2, 2, 4, 4, 2] : List Int).length cx] (by rfl) rfl rfl (by simp only [List.map_toArray, List.map_cons, List.map_nil]; rfl) ?_
  with_reducible refine (row_of (s.extract a s.size) _ _ 8 _ _ _ hCx hcx FR.out rfl (by decide)).mono ?_
  rintro e' w2 ⟨g5, capg5, curg5, rfl, hcapg5, hhg5, hgeg5, hcg5, hb3⟩
  refine ⟨_, rfl, ?_⟩
  have HBy := Aside0.mk (below_step HBx.out hb3)
  have HQ1y := Aside0.mk (blk_below HQ1x.out hb3)
  have HLg5 := Aside0.mk hhg5; have HCg5 := Aside0.mk hcg5; have HCAPg5 := Aside0.mk hcapg5; clear hhg5 hcg5 hgeg5 hcapg5 hb3 HBx hb2 hCx hcx
  refine hK.out _ _ trivial (fun hHeld => ?_)
  clear hK K
  refine norm_ (a' := ?_) ?_ ?_
  rotate_left
  · show Act.put _ (some 19) _ = _
    simp only [Act.put, List.setIfInBounds_toArray, List.set_cons_zero, List.set_cons_succ, i64_w, i32_w]
    rfl
  refine pure_ (i := 5) (N := some 5) (v := ?_) (a' := ?_) #[true, true, true, true, true, true] rfl rfl (by as_aux_lemma => kernel_rfl) (fun _ _ _ h => h) (Or.inl ⟨by rfl, ?_⟩) ?_ ?_
  rotate_left
  · intro w'
    go_simp
    with_reducible rfl
  rotate_left
  · simp only [Act.put, List.setIfInBounds_toArray, List.set_cons_zero, List.set_cons_succ, i64_w, i32_w]
    rfl
  refine done_ (by as_aux_lemma => kernel_rfl) ?_
  clear HB1 HQ1 p1 p2 p3
  have HB2 := HBy; have HQ2 := HQ1y
  clear HBy HQ1y
  go_upto_region 5 with (fail)
  have k1 := (blk_cell HLg5.out 1).trans (HCg5.out 1 _ rfl)
  have k2 := (blk_cell HLg5.out 2).trans (HCg5.out 2 _ rfl)
  have k3 := (blk_cell HLg5.out 3).trans (HCg5.out 3 _ rfl)
  have k4 := (blk_cell HLg5.out 4).trans (HCg5.out 4 _ rfl)
  have b1 : ((n1 : Int) != 0) = false := bne_eq_false_iff_eq.2 (by omega)
  have b2 : ((n2 : Int) != 0) = false := bne_eq_false_iff_eq.2 (by omega)
  have b3 : ((n3 : Int) != (n4 : Int)) = false := bne_eq_false_iff_eq.2 (by omega)
  go_quiet (fail)
  generalize hq_ : World.drewN w2 _ = w3
  have HQ3 := Aside0.mk (show w3.heap[gr]? = some (.cells #[.int .i64 0, .int .u64 0, .int .u64 0, .int .u64 0, .string (⟨#[]⟩ : ByteArray), .bool false] 29 (0, 0)) from by rw [← hq_]; exact HQ2.out)
  have HL3 := Aside0.mk (show w3.heap[g5]? = some (.cells curg5 23 (0, 0)) from by rw [← hq_]; exact HLg5.out)
  have HB3 : Aside0 (Below w.heap.size w w3) := ⟨by rw [← hq_]; exact pw_below_drewN HB2.out _⟩
  clear hq_
  clear k1 k2 k3 k4 HQ2 HLg5 HB2 b1 b2 b3
  have c0 := eq_true (show (0 : Int) ≤ (a : Int) + 22 by omega)
  have c1 := eq_true (show (a : Int) + 22 ≤ (s.size : Int) by omega)
  have ht : ((a : Int) + 22).toNat = a + 22 := by omega
  have hw2 : wrap64 ((a : Int) + 22) = (a : Int) + 22 := wrap_id (by omega) (by omega)
  go_upto_region 7 with (fail)
  refine start_ (n := 17) (S := fun w' => w'.cell? ⟨g5, 4, none⟩ = some (.int .u64 n4) ∧ w'.cell? ⟨g5, 5, none⟩ = some (.int .u64 n5) ∧ w'.cell? ⟨g5, 6, none⟩ = some (.int .u64 n6)) (ds := [16]) #[false, false, false, false, false, false, false, false, false, false, false, false, false, false, false, false, false] (by as_aux_lemma => kernel_rfl) rfl rfl ⟨((blk_cell (blk_drew HL3.out) 4).trans (HCg5.out 4 _ rfl)), ((blk_cell (blk_drew HL3.out) 5).trans (HCg5.out 5 _ rfl)), ((blk_cell (blk_drew HL3.out) 6).trans (HCg5.out 6 _ rfl))⟩ (fun hHeld => ?_)
  refine pure_ (i := 0) (N := some 40) (v := ?_) (a' := ?_) #[true, false, false, false, false, false, false, false, false, false, false, false, false, false, false, false, false] rfl rfl (by as_aux_lemma => kernel_rfl) (fun _ _ _ h => h) (Or.inl ⟨by rfl, ?_⟩) ?_ ?_
  rotate_left
  · intro w'
    go_simp
    with_reducible rfl
  rotate_left
  · simp only [Act.put, List.setIfInBounds_toArray, List.set_cons_zero, List.set_cons_succ, i64_w, i32_w]
    rfl
  refine pure_ (i := 1) (N := some 41) (v := ?_) (a' := ?_) #[true, true, false, false, false, false, false, false, false, false, false, false, false, false, false, false, false] rfl rfl (by as_aux_lemma => kernel_rfl) (fun _ _ _ h => h) (Or.inl ⟨by rfl, ?_⟩) ?_ ?_
  rotate_left
  · intro w'
    go_simp
    with_reducible rfl
  rotate_left
  · simp only [Act.put, List.setIfInBounds_toArray, List.set_cons_zero, List.set_cons_succ, i64_w, i32_w]
    rfl
  refine pure_ (i := 2) (N := some 42) (v := ?_) (a' := ?_) #[true, true, true, false, false, false, false, false, false, false, false, false, false, false, false, false, false] rfl rfl (by as_aux_lemma => kernel_rfl) (fun _ _ _ h => h) (Or.inl ⟨by rfl, ?_⟩) ?_ ?_
  rotate_left
  · intro w'
    go_simp
    with_reducible rfl
  rotate_left
  · simp only [Act.put, List.setIfInBounds_toArray, List.set_cons_zero, List.set_cons_succ, i64_w, i32_w]
    rfl
  refine pure_ (i := 4) (N := some 44) (v := ?_) (a' := ?_) #[true, true, true, false, true, false, false, false, false, false, false, false, false, false, false, false, false] rfl rfl (by as_aux_lemma => kernel_rfl) (fun _ _ _ h => h) (Or.inl ⟨by rfl, ?_⟩) ?_ ?_
  rotate_left
  · intro w'
    go_simp
    with_reducible rfl
  rotate_left
  · simp only [Act.put, List.setIfInBounds_toArray, List.set_cons_zero, List.set_cons_succ, i64_w, i32_w]
    rfl
  refine pure_ (i := 5) (N := some 45) (v := ?_) (a' := ?_) #[true, true, true, false, true, true, false, false, false, false, false, false, false, false, false, false, false] rfl rfl (by as_aux_lemma => kernel_rfl) (fun _ _ _ h => h) (Or.inl ⟨by rfl, ?_⟩) ?_ ?_
  rotate_left
  · intro w'
    go_simp
    with_reducible rfl
  rotate_left
  · simp only [Act.put, List.setIfInBounds_toArray, List.set_cons_zero, List.set_cons_succ, i64_w, i32_w]
    rfl
  refine pure_ (i := 7) (N := some 47) (v := ?_) (a' := ?_) #[true, true, true, false, true, true, false, true, false, false, false, false, false, false, false, false, false] rfl rfl (by as_aux_lemma => kernel_rfl) (fun _ _ _ h => h) (Or.inl ⟨by rfl, ?_⟩) ?_ ?_
  rotate_left
  · intro w'
    go_simp
    with_reducible rfl
  rotate_left
  · simp only [Act.put, List.setIfInBounds_toArray, List.set_cons_zero, List.set_cons_succ, i64_w, i32_w]
    rfl
  refine pure_ (i := 8) (N := some 48) (v := ?_) (a' := ?_) #[true, true, true, false, true, true, false, true, true, false, false, false, false, false, false, false, false] rfl rfl (by as_aux_lemma => kernel_rfl) (fun _ _ _ h => h) (Or.inl ⟨by rfl, ?_⟩) ?_ ?_
  rotate_left
  · intro w'
    go_simp
    with_reducible rfl
  rotate_left
  · simp only [Act.put, List.setIfInBounds_toArray, List.set_cons_zero, List.set_cons_succ, i64_w, i32_w]
    rfl
  refine pure_ (i := 10) (N := some 50) (v := ?_) (a' := ?_) #[true, true, true, false, true, true, false, true, true, false, true, false, false, false, false, false, false] rfl rfl (by as_aux_lemma => kernel_rfl) (fun _ _ _ h => h) (Or.inl ⟨by rfl, ?_⟩) ?_ ?_
  rotate_left
  · intro w'
    go_simp
    with_reducible rfl
  rotate_left
  · simp only [Act.put, List.setIfInBounds_toArray, List.set_cons_zero, List.set_cons_succ, i64_w, i32_w]
    rfl
  refine pure_ (i := 11) (N := some 51) (v := ?_) (a' := ?_) #[true, true, true, false, true, true, false, true, true, false, true, true, false, false, false, false, false] rfl rfl (by as_aux_lemma => kernel_rfl) (fun _ _ _ h => h) (Or.inl ⟨by rfl, ?_⟩) ?_ ?_
  rotate_left
  · intro w'
    go_simp
    with_reducible rfl
  rotate_left
  · simp only [Act.put, List.setIfInBounds_toArray, List.set_cons_zero, List.set_cons_succ, i64_w, i32_w]
    rfl
  refine pure_ (i := 12) (N := some 52) (v := ?_) (a' := ?_) #[true, true, true, false, true, true, false, true, true, false, true, true, true, false, false, false, false] rfl rfl (by as_aux_lemma => kernel_rfl) (fun _ _ _ h => h) (Or.inl ⟨by rfl, ?_⟩) ?_ ?_
  rotate_left
  · intro w'
    go_simp
    with_reducible rfl
  rotate_left
  · simp only [Act.put, List.setIfInBounds_toArray, List.set_cons_zero, List.set_cons_succ, i64_w, i32_w]
    rfl
  refine pure_ (i := 13) (N := some 53) (v := ?_) (a' := ?_) #[true, true, true, false, true, true, false, true, true, false, true, true, true, true, false, false, false] rfl rfl (by as_aux_lemma => kernel_rfl) (fun _ _ _ h => h) (Or.inl ⟨by rfl, ?_⟩) ?_ ?_
  rotate_left
  · intro w'
    go_simp
    with_reducible rfl
  rotate_left
  · simp only [Act.put, List.setIfInBounds_toArray, List.set_cons_zero, List.set_cons_succ, i64_w, i32_w]
    rfl
  refine take_ (i := 3) (N := some 43) (v := ?_) (a' := ?_) #[true, true, true, true, true, true, false, true, true, false, true, true, true, true, false, false, false] rfl rfl (by as_aux_lemma => kernel_rfl) (fun _ _ _ h => h) (Or.inl ⟨by rfl, ?_⟩) hHeld ?_ ?_
  rotate_left
  · rintro w' ⟨s0, s1, s2⟩
    go_simp
    with_reducible rfl
  rotate_left
  · simp only [Act.put, List.setIfInBounds_toArray, List.set_cons_zero, List.set_cons_succ, i64_w, i32_w]
    rfl
  refine take_ (i := 6) (N := some 46) (v := ?_) (a' := ?_) #[true, true, true, true, true, true, true, true, true, false, true, true, true, true, false, false, false] rfl rfl (by as_aux_lemma => kernel_rfl) (fun _ _ _ h => h) (Or.inl ⟨by rfl, ?_⟩) hHeld ?_ ?_
  rotate_left
  · rintro w' ⟨s0, s1, s2⟩
    go_simp
    with_reducible rfl
  rotate_left
  · simp only [Act.put, List.setIfInBounds_toArray, List.set_cons_zero, List.set_cons_succ, i64_w, i32_w]
    rfl
  refine take_ (i := 9) (N := some 49) (v := ?_) (a' := ?_) #[true, true, true, true, true, true, true, true, true, true, true, true, true, true, false, false, false] rfl rfl (by as_aux_lemma => kernel_rfl) (fun _ _ _ h => h) (Or.inl ⟨by rfl, ?_⟩) hHeld ?_ ?_
  rotate_left
  · rintro w' ⟨s0, s1, s2⟩
    go_simp
    with_reducible rfl
  rotate_left
  · simp only [Act.put, List.setIfInBounds_toArray, List.set_cons_zero, List.set_cons_succ, i64_w, i32_w]
    rfl
  refine pure_ (i := 14) (N := some 54) (v := ?_) (a' := ?_) #[true, true, true, true, true, true, true, true, true, true, true, true, true, true, true, false, false] rfl rfl (by as_aux_lemma => kernel_rfl) (fun _ _ _ h => h) (Or.inl ⟨by rfl, ?_⟩) ?_ ?_
  rotate_left
  · intro w'
    go_simp
    with_reducible rfl
  rotate_left
  · simp only [Act.put, List.setIfInBounds_toArray, List.set_cons_zero, List.set_cons_succ, i64_w, i32_w]
    rfl
  refine one_ (i := 15) (N := some 6) #[true, true, true, true, true, true, true, true, true, true, true, true, true, true, true, true, false] rfl rfl (by as_aux_lemma => kernel_rfl) (by decide) (fun K hK => ?_)
  refine value_ (w1 := ?_) (v := ?_) (by rfl) rfl ?_ ?_
  rotate_left 2
  · go_simp
    constructor
    · rfl
    · rfl
  have HBe := Aside0.mk (below_drew1 (below_alloc HB3.out (.cells #[.int .i64 0, .int .u64 0, .int .u64 0, .int .u64 0, .string (⟨#[]⟩ : ByteArray), .bool false] 29)))
  have HQe := Aside0.mk (blk_drew (blk_alloc HQ3.out (.cells #[.int .i64 0, .int .u64 0, .int .u64 0, .int .u64 0, .string (⟨#[]⟩ : ByteArray), .bool false] 29)))
  have HLe := Aside0.mk (blk_drew (blk_alloc HL3.out (.cells #[.int .i64 0, .int .u64 0, .int .u64 0, .int .u64 0, .string (⟨#[]⟩ : ByteArray), .bool false] 29)))
  have HEe := Aside0.mk (blk_drew (heap_alloc_new w3 (.cells #[.int .i64 0, .int .u64 0, .int .u64 0, .int .u64 0, .string (⟨#[]⟩ : ByteArray), .bool false] 29)))
  have HNE := Aside0.mk (show gr ≠ w3.heap.size from Nat.ne_of_lt (blk_lt HQ3.out))
  have HNL := Aside0.mk (show g5 ≠ w3.heap.size from Nat.ne_of_lt (blk_lt HL3.out))
  have HGE := Aside0.mk (show w.heap.size ≤ w3.heap.size from HB3.out.size)
  generalize (w3.alloc (.cells #[.int .i64 0, .int .u64 0, .int .u64 0, .int .u64 0, .string (⟨#[]⟩ : ByteArray), .bool false] 29)).drew = we at HBe HQe HLe HEe ⊢
  generalize w3.heap.size = gE at HEe HNE HNL HGE ⊢
  have e0 := blk_cell HEe.out 0; have f0 := blk_frozen HEe.out 0
  have e1 := blk_cell HEe.out 1; have f1 := blk_frozen HEe.out 1
  have e2 := blk_cell HEe.out 2; have f2 := blk_frozen HEe.out 2
  have e3 := blk_cell HEe.out 3; have f3 := blk_frozen HEe.out 3
  have e4 := blk_cell HEe.out 4; have f4 := blk_frozen HEe.out 4
  have e5 := blk_cell HEe.out 5; have f5 := blk_frozen HEe.out 5
  refine hK.out _ _ ⟨((blk_cell HLe.out 4).trans (HCg5.out 4 _ rfl)), ((blk_cell HLe.out 5).trans (HCg5.out 5 _ rfl)), ((blk_cell HLe.out 6).trans (HCg5.out 6 _ rfl))⟩ (fun hHeld => ?_)
  clear hK K
  refine norm_ (a' := ?_) ?_ ?_
  rotate_left
  · show Act.put _ (some 6) _ = _
    simp only [Act.put, List.setIfInBounds_toArray, List.set_cons_zero, List.set_cons_succ, i64_w, i32_w]
    rfl
  refine last_ (i := 16) (N := none) #[true, true, true, true, true, true, true, true, true, true, true, true, true, true, true, true, true] rfl rfl (by as_aux_lemma => kernel_rfl) (by decide) (fun K hK => ?_)
  refine skip_ (w1 := ?_) (by rfl) rfl ?_ ?_
  rotate_left
  · go_simp
    rfl
  refine hK.out _ _ ?_
  clear hK K
  refine done_ (by as_aux_lemma => kernel_rfl) ?_
  clear hHeld HB3 HQ3 HL3 e0 f0 e1 f1 e2 f2 e3 f3 e4 f4 e5 f5
  have HE4 := Aside0.mk (show ((((((we.setCell ⟨gE, 0, none⟩ (.int .i64 (a : Int))).setCell ⟨gE, 1, none⟩ (.int .u64 (n4 : Int))).setCell ⟨gE, 2, none⟩ (.int .u64 (n5 : Int))).setCell ⟨gE, 3, none⟩ (.int .u64 (n6 : Int))).setCell ⟨gE, 4, none⟩ (.string (s.extract (a + 22) s.size))).setCell ⟨gE, 5, none⟩ (.bool false)).heap[gE]? = some (.cells #[.int .i64 (a : Int), .int .u64 (n4 : Int), .int .u64 (n5 : Int), .int .u64 (n6 : Int), .string (s.extract (a + 22) s.size), .bool false] 29 (0, 0)) by simpa using (blk_set (blk_set (blk_set (blk_set (blk_set (blk_set HEe.out 0 (.int .i64 (a : Int))) 1 (.int .u64 (n4 : Int))) 2 (.int .u64 (n5 : Int))) 3 (.int .u64 (n6 : Int))) 4 (.string (s.extract (a + 22) s.size))) 5 (.bool false)))
  have HB4 := Aside0.mk (below_set (below_set (below_set (below_set (below_set (below_set HBe.out HGE.out (j := 0) (v := (.int .i64 (a : Int)))) HGE.out (j := 1) (v := (.int .u64 (n4 : Int)))) HGE.out (j := 2) (v := (.int .u64 (n5 : Int)))) HGE.out (j := 3) (v := (.int .u64 (n6 : Int)))) HGE.out (j := 4) (v := (.string (s.extract (a + 22) s.size)))) HGE.out (j := 5) (v := (.bool false)))
  have HQ4 := Aside0.mk (blk_far (blk_far (blk_far (blk_far (blk_far (blk_far HQe.out (p := ⟨gE, 0, none⟩) HNE.out (.int .i64 (a : Int))) (p := ⟨gE, 1, none⟩) HNE.out (.int .u64 (n4 : Int))) (p := ⟨gE, 2, none⟩) HNE.out (.int .u64 (n5 : Int))) (p := ⟨gE, 3, none⟩) HNE.out (.int .u64 (n6 : Int))) (p := ⟨gE, 4, none⟩) HNE.out (.string (s.extract (a + 22) s.size))) (p := ⟨gE, 5, none⟩) HNE.out (.bool false))
  have HL4 := Aside0.mk (blk_far (blk_far (blk_far (blk_far (blk_far (blk_far HLe.out (p := ⟨gE, 0, none⟩) HNL.out (.int .i64 (a : Int))) (p := ⟨gE, 1, none⟩) HNL.out (.int .u64 (n4 : Int))) (p := ⟨gE, 2, none⟩) HNL.out (.int .u64 (n5 : Int))) (p := ⟨gE, 3, none⟩) HNL.out (.int .u64 (n6 : Int))) (p := ⟨gE, 4, none⟩) HNL.out (.string (s.extract (a + 22) s.size))) (p := ⟨gE, 5, none⟩) HNL.out (.bool false))
  generalize ((((((we.setCell ⟨gE, 0, none⟩ (.int .i64 (a : Int))).setCell ⟨gE, 1, none⟩ (.int .u64 (n4 : Int))).setCell ⟨gE, 2, none⟩ (.int .u64 (n5 : Int))).setCell ⟨gE, 3, none⟩ (.int .u64 (n6 : Int))).setCell ⟨gE, 4, none⟩ (.string (s.extract (a + 22) s.size))).setCell ⟨gE, 5, none⟩ (.bool false)) = w4 at HE4 HB4 HQ4 HL4 ⊢
  clear HEe HBe HQe HLe HNE HNL HGE c0 c1 ht hw2
  have k4 := (blk_cell HL4.out 4).trans (HCg5.out 4 _ rfl)
  have k5 := (blk_cell HL4.out 5).trans (HCg5.out 5 _ rfl)
  have k6 := (blk_cell HL4.out 6).trans (HCg5.out 6 _ rfl)
  go_upto_region 8 with (fail)
  go_cut [70] (fun v70 wx => v70 = .bool false ∧ wx = w4)
  case first =>
    have hask := HASK.out
    by_cases c4 : n4 = 65535
    · have b4 : ((n4 : Int) != 65535) = false := bne_eq_false_iff_eq.2 (by omega)
      clear hask
      go_wp2_with (fail)
      go_meet
      exact ⟨rfl, rfl⟩
    have b4 : ((n4 : Int) != 65535) = true := bne_iff_ne.2 (by omega)
    by_cases c5 : n5 = 4294967295
    · have b5 : ((n5 : Int) != 4294967295) = false := bne_eq_false_iff_eq.2 (by omega)
      clear hask
      go_wp2_with (fail)
      go_meet
      exact ⟨rfl, rfl⟩
    have b5 : ((n5 : Int) != 4294967295) = true := bne_iff_ne.2 (by omega)
    have b6 : ((n6 : Int) != 4294967295) = false := bne_eq_false_iff_eq.2 (by omega)
    clear hask
    go_wp2_with (fail)
    go_meet
    exact ⟨rfl, rfl⟩
  obtain ⟨rfl, rfl⟩ := hcut
  clear k4 k5 k6
  have p20 : decide ((a : Int) < 20) = false := decide_eq_false (by omega)
  go_upto_region 12 with (fail)
  have c0 := eq_true (show (0 : Int) ≤ (a : Int) - 20 by omega)
  have c1 := eq_true (show (a : Int) - 20 ≤ (s.size : Int) by omega)
  have c2 := eq_true (show (20 : Int) ≤ (a : Int) by omega)
  have ht : ((a : Int) - 20).toNat = a - 20 := by omega
  have hw2 : wrap64 ((a : Int) - 20) = (a : Int) - 20 := wrap_id (by omega) (by omega)
  refine start_ (n := 7) (S := fun w' => True) (ds := []) #[false, false, false, false, false, false, false] (by as_aux_lemma => kernel_rfl) rfl rfl trivial (fun hHeld => ?_)
  refine pure_ (i := 0) (N := some 75) (v := ?_) (a' := ?_) #[true, false, false, false, false, false, false] rfl rfl (by as_aux_lemma => kernel_rfl) (fun _ _ _ h => h) (Or.inl ⟨by rfl, ?_⟩) ?_ ?_
  rotate_left
  · intro w'
    go_simp
    with_reducible rfl
  rotate_left
  · simp only [Act.put, List.setIfInBounds_toArray, List.set_cons_zero, List.set_cons_succ, i64_w, i32_w]
    rfl
  refine pure_ (i := 1) (N := some 76) (v := ?_) (a' := ?_) #[true, true, false, false, false, false, false] rfl rfl (by as_aux_lemma => kernel_rfl) (fun _ _ _ h => h) (Or.inl ⟨by rfl, ?_⟩) ?_ ?_
  rotate_left
  · intro w'
    go_simp
    with_reducible rfl
  rotate_left
  · simp only [Act.put, List.setIfInBounds_toArray, List.set_cons_zero, List.set_cons_succ, i64_w, i32_w]
    rfl
  refine pure_ (i := 2) (N := some 77) (v := ?_) (a' := ?_) #[true, true, true, false, false, false, false] rfl rfl (by as_aux_lemma => kernel_rfl) (fun _ _ _ h => h) (Or.inl ⟨by rfl, ?_⟩) ?_ ?_
  rotate_left
  · intro w'
    go_simp
    with_reducible rfl
  rotate_left
  · simp only [Act.put, List.setIfInBounds_toArray, List.set_cons_zero, List.set_cons_succ, i64_w, i32_w]
    rfl
  refine pure_ (i := 3) (N := some 78) (v := ?_) (a' := ?_) #[true, true, true, true, false, false, false] rfl rfl (by as_aux_lemma => kernel_rfl) (fun _ _ _ h => h) (Or.inl ⟨by rfl, ?_⟩) ?_ ?_
  rotate_left
  · intro w'
    go_simp
    with_reducible rfl
  rotate_left
  · simp only [Act.put, List.setIfInBounds_toArray, List.set_cons_zero, List.set_cons_succ, i64_w, i32_w]
    rfl
  refine one_ (i := 4) (N := some 79) #[true, true, true, true, true, false, false] rfl rfl (by as_aux_lemma => kernel_rfl) (by decide) (fun K hK => ?_)
  refine goes_ Try.func23 (by as_aux_lemma => kernel_rfl) rfl #[] (by rfl) rfl rfl (by simp only [List.map_toArray, List.map_nil]) ?_
  with_reducible refine (locators_of _).mono ?_
  rintro e' wx ⟨Ax, cx, rfl, hCx, hcx, hb2⟩
  refine ⟨_, rfl, ?_⟩
  have HBx := Aside0.mk (below_step (below_drew1 HB4.out) hb2)
  have HQ4x := Aside0.mk (blk_below (blk_drew HQ4.out) hb2); have HL4x := Aside0.mk (blk_below (blk_drew HL4.out) hb2); have HE4x := Aside0.mk (blk_below (blk_drew HE4.out) hb2)
  refine hK.out _ _ trivial (fun hHeld => ?_)
  clear hK K
  refine norm_ (a' := ?_) ?_ ?_
  rotate_left
  · show Act.put _ (some 79) _ = _
    simp only [Act.put, List.setIfInBounds_toArray, List.set_cons_zero, List.set_cons_succ, i64_w, i32_w]
    rfl
  refine one_ (i := 5) (N := some 80) #[true, true, true, true, true, true, false] rfl rfl (by as_aux_lemma => kernel_rfl) (by decide) (fun K hK => ?_)
  refine goes_ Try.func21 (by as_aux_lemma => kernel_rfl) rfl #[.string (s.extract (a - 20) s.size), .slice Ax ([4, 4, 8, 4] : List Int).length cx] (by rfl) rfl rfl (by simp only [List.map_toArray, List.map_cons, List.map_nil]; rfl) ?_
  with_reducible refine (row_of (s.extract (a - 20) s.size) _ _ 4 _ _ _ hCx hcx FL.out rfl (by decide)).mono ?_
  rintro e' w5 ⟨g7, capg7, curg7, rfl, hcapg7, hhg7, hgeg7, hcg7, hb3⟩
  refine ⟨_, rfl, ?_⟩
  have HBy := Aside0.mk (below_step HBx.out hb3)
  have HQ4y := Aside0.mk (blk_below HQ4x.out hb3); have HL4y := Aside0.mk (blk_below HL4x.out hb3); have HE4y := Aside0.mk (blk_below HE4x.out hb3)
  have HLg7 := Aside0.mk hhg7; have HCg7 := Aside0.mk hcg7; have HCAPg7 := Aside0.mk hcapg7; clear hhg7 hcg7 hgeg7 hcapg7 hb3 HBx hb2 hCx hcx
  refine hK.out _ _ trivial (fun hHeld => ?_)
  clear hK K
  refine norm_ (a' := ?_) ?_ ?_
  rotate_left
  · show Act.put _ (some 80) _ = _
    simp only [Act.put, List.setIfInBounds_toArray, List.set_cons_zero, List.set_cons_succ, i64_w, i32_w]
    rfl
  refine pure_ (i := 6) (N := some 7) (v := ?_) (a' := ?_) #[true, true, true, true, true, true, true] rfl rfl (by as_aux_lemma => kernel_rfl) (fun _ _ _ h => h) (Or.inl ⟨by rfl, ?_⟩) ?_ ?_
  rotate_left
  · intro w'
    go_simp
    with_reducible rfl
  rotate_left
  · simp only [Act.put, List.setIfInBounds_toArray, List.set_cons_zero, List.set_cons_succ, i64_w, i32_w]
    rfl
  refine done_ (by as_aux_lemma => kernel_rfl) ?_
  clear HB4 HQ4 HL4 HE4 c0 c1 c2 ht hw2
  have HB5 := HBy; have HQ5 := HQ4y; have HL5 := HL4y; have HE5 := HE4y
  clear HBy HQ4y HL4y HE4y
  have k0 := (blk_cell HLg7.out 0).trans (HCg7.out 0 _ rfl)
  have k1 := (blk_cell HLg7.out 1).trans (HCg7.out 1 _ rfl)
  have k2 := (blk_cell HLg7.out 2).trans (HCg7.out 2 _ rfl)
  have k3 := (blk_cell HLg7.out 3).trans (HCg7.out 3 _ rfl)
  have b_m0 : ((m0 : Int) != 117853008) = false := bne_eq_false_iff_eq.2 (by omega)
  have b_m1 : ((m1 : Int) != 0) = false := bne_eq_false_iff_eq.2 (by omega)
  have b_m3 : ((m3 : Int) != 1) = false := bne_eq_false_iff_eq.2 (by omega)
  have g2 := HG2.out
  have hlong := HLONG.out
  have d0 := eq_true (show (0 : Int) ≤ (m2 : Int) by omega)
  have d1 := eq_true (show (m2 : Int) ≤ (s.size : Int) by omega)
  have d2 := eq_true (show m2 ≤ s.size by omega)
  have b_m2 : decide ((a : Int) - 20 < (m2 : Int)) = false := decide_eq_false (by omega)
  have b56 : decide ((a : Int) - 20 - (m2 : Int) < 56) = false := decide_eq_false (by omega)
  have v9 : (-9223372036854775808 : Int) ≤ (a : Int) - 20 - (m2 : Int) - 12 := by omega
  have va : (a : Int) - 20 - (m2 : Int) - 12 ≤ 9223372036854775807 := by omega
  have vb : (0 : Int) ≤ (a : Int) - 20 - (m2 : Int) - 12 := by omega
  have vc : (a : Int) - 20 - (m2 : Int) - 12 < 18446744073709551616 := by omega
  have v1 : (-9223372036854775808 : Int) ≤ (a : Int) - 20 := by omega
  have v2 : (a : Int) - 20 ≤ 9223372036854775807 := by omega
  have v3 : (0 : Int) ≤ (a : Int) - 20 := by omega
  have v4 : (a : Int) - 20 < 18446744073709551616 := by omega
  have v5 : (-9223372036854775808 : Int) ≤ (m2 : Int) := by omega
  have v6 : (m2 : Int) ≤ 9223372036854775807 := by omega
  have v7 : (-9223372036854775808 : Int) ≤ (a : Int) - 20 - (m2 : Int) := by omega
  have v8 : (a : Int) - 20 - (m2 : Int) ≤ 9223372036854775807 := by omega
  have hw2 := wrap_id v1 v2
  have hu2 := u64_id v3 v4
  have hw3 := wrap_id v5 v6
  have hw4 := wrap_id v7 v8
  have hw5 := wrap_id v9 va
  have hu5 := u64_id vb vc
  clear v1 v2 v3 v4 v5 v6 v7 v8 v9 va vb vc
  clear g2 hlong
  go_upto_region 18 with (fail)
  clear b_m0 b_m1 b_m2 b_m3 b56 p20 k0 k1 k2 k3
  refine start_ (n := 6) (S := fun w' => True) (ds := []) #[false, false, false, false, false, false] (by as_aux_lemma => kernel_rfl) rfl rfl trivial (fun hHeld => ?_)
  refine pure_ (i := 0) (N := some 117) (v := ?_) (a' := ?_) #[true, false, false, false, false, false] rfl rfl (by as_aux_lemma => kernel_rfl) (fun _ _ _ h => h) (Or.inl ⟨by rfl, ?_⟩) ?_ ?_
  rotate_left
  · intro w'
    go_simp
    with_reducible rfl
  rotate_left
  · simp only [Act.put, List.setIfInBounds_toArray, List.set_cons_zero, List.set_cons_succ, i64_w, i32_w]
    rfl
  refine pure_ (i := 1) (N := some 118) (v := ?_) (a' := ?_) #[true, true, false, false, false, false] rfl rfl (by as_aux_lemma => kernel_rfl) (fun _ _ _ h => h) (Or.inl ⟨by rfl, ?_⟩) ?_ ?_
  rotate_left
  · intro w'
    go_simp
    with_reducible rfl
  rotate_left
  · simp only [Act.put, List.setIfInBounds_toArray, List.set_cons_zero, List.set_cons_succ, i64_w, i32_w]
    rfl
  refine pure_ (i := 2) (N := some 119) (v := ?_) (a' := ?_) #[true, true, true, false, false, false] rfl rfl (by as_aux_lemma => kernel_rfl) (fun _ _ _ h => h) (Or.inl ⟨by rfl, ?_⟩) ?_ ?_
  rotate_left
  · intro w'
    go_simp
    with_reducible rfl
  rotate_left
  · simp only [Act.put, List.setIfInBounds_toArray, List.set_cons_zero, List.set_cons_succ, i64_w, i32_w]
    rfl
  refine one_ (i := 3) (N := some 120) #[true, true, true, true, false, false] rfl rfl (by as_aux_lemma => kernel_rfl) (by decide) (fun K hK => ?_)
  refine goes_ Try.func24 (by as_aux_lemma => kernel_rfl) rfl #[] (by rfl) rfl rfl (by simp only [List.map_toArray, List.map_nil]) ?_
  with_reducible refine (wides_of _).mono ?_
  rintro e' wx ⟨Ax, cx, rfl, hCx, hcx, hb2⟩
  refine ⟨_, rfl, ?_⟩
  have HBx := Aside0.mk (below_step (below_drew1 HB5.out) hb2)
  have HQ5x := Aside0.mk (blk_below (blk_drew HQ5.out) hb2); have HL5x := Aside0.mk (blk_below (blk_drew HL5.out) hb2); have HE5x := Aside0.mk (blk_below (blk_drew HE5.out) hb2)
  refine hK.out _ _ trivial (fun hHeld => ?_)
  clear hK K
  refine norm_ (a' := ?_) ?_ ?_
  rotate_left
  · show Act.put _ (some 120) _ = _
    simp only [Act.put, List.setIfInBounds_toArray, List.set_cons_zero, List.set_cons_succ, i64_w, i32_w]
    rfl
  refine one_ (i := 4) (N := some 121) #[true, true, true, true, true, false] rfl rfl (by as_aux_lemma => kernel_rfl) (by decide) (fun K hK => ?_)
  refine goes_ Try.func21 (by as_aux_lemma => kernel_rfl) rfl #[.string (s.extract m2 s.size), .slice Ax ([4, 8, 2, 2, 4, 4, 8, 8, 8, 8] : List Int).length cx] (by rfl) rfl rfl (by simp only [List.map_toArray, List.map_cons, List.map_nil]; rfl) ?_
  with_reducible refine (row_of (s.extract m2 s.size) _ _ 10 _ _ _ hCx hcx FW.out rfl (by decide)).mono ?_
  rintro e' w6 ⟨g9, capg9, curg9, rfl, hcapg9, hhg9, hgeg9, hcg9, hb3⟩
  refine ⟨_, rfl, ?_⟩
  have HBy := Aside0.mk (below_step HBx.out hb3)
  have HQ5y := Aside0.mk (blk_below HQ5x.out hb3); have HL5y := Aside0.mk (blk_below HL5x.out hb3); have HE5y := Aside0.mk (blk_below HE5x.out hb3)
  have HLg9 := Aside0.mk hhg9; have HCg9 := Aside0.mk hcg9; have HCAPg9 := Aside0.mk hcapg9; clear hhg9 hcg9 hgeg9 hcapg9 hb3 HBx hb2 hCx hcx
  refine hK.out _ _ trivial (fun hHeld => ?_)
  clear hK K
  refine norm_ (a' := ?_) ?_ ?_
  rotate_left
  · show Act.put _ (some 121) _ = _
    simp only [Act.put, List.setIfInBounds_toArray, List.set_cons_zero, List.set_cons_succ, i64_w, i32_w]
    rfl
  refine pure_ (i := 5) (N := some 9) (v := ?_) (a' := ?_) #[true, true, true, true, true, true] rfl rfl (by as_aux_lemma => kernel_rfl) (fun _ _ _ h => h) (Or.inl ⟨by rfl, ?_⟩) ?_ ?_
  rotate_left
  · intro w'
    go_simp
    with_reducible rfl
  rotate_left
  · simp only [Act.put, List.setIfInBounds_toArray, List.set_cons_zero, List.set_cons_succ, i64_w, i32_w]
    rfl
  refine done_ (by as_aux_lemma => kernel_rfl) ?_
  clear HB5 HQ5 HL5 HE5 d0 d1 d2
  have HB6 := HBy; have HQ6 := HQ5y; have HL6 := HL5y; have HE6 := HE5y
  clear HBy HQ5y HL5y HE5y
  have k0 := (blk_cell HLg9.out 0).trans (HCg9.out 0 _ rfl)
  have k1 := (blk_cell HLg9.out 1).trans (HCg9.out 1 _ rfl)
  have k4 := (blk_cell HLg9.out 4).trans (HCg9.out 4 _ rfl)
  have k5 := (blk_cell HLg9.out 5).trans (HCg9.out 5 _ rfl)
  have k6 := (blk_cell HLg9.out 6).trans (HCg9.out 6 _ rfl)
  have k7 := (blk_cell HLg9.out 7).trans (HCg9.out 7 _ rfl)
  go_upto_region 19 with (fail)
  have b_q0 : ((q0 : Int) != 101075792) = false := by
    have g2 := HG2.out
    have hlong := HLONG.out
    clear hw2 hu2 hw3 hw4 hw5 hu5
    exact bne_eq_false_iff_eq.2 (by omega)
  have b_q1 : ((q1 : Int) != (a : Int) - 20 - (m2 : Int) - 12) = false := by
    have g2 := HG2.out
    have hlong := HLONG.out
    clear hw2 hu2 hw3 hw4 hw5 hu5
    exact bne_eq_false_iff_eq.2 (by omega)
  have b_q4 : ((q4 : Int) != 0) = false := by
    have g2 := HG2.out
    have hlong := HLONG.out
    clear hw2 hu2 hw3 hw4 hw5 hu5
    exact bne_eq_false_iff_eq.2 (by omega)
  have b_q5 : ((q5 : Int) != 0) = false := by
    have g2 := HG2.out
    have hlong := HLONG.out
    clear hw2 hu2 hw3 hw4 hw5 hu5
    exact bne_eq_false_iff_eq.2 (by omega)
  have b_q6 : ((q6 : Int) != (q7 : Int)) = false := by
    have g2 := HG2.out
    have hlong := HLONG.out
    clear hw2 hu2 hw3 hw4 hw5 hu5
    exact bne_eq_false_iff_eq.2 (by omega)
  clear e0 e1 e4 e5 e6
  go_quiet (fail)
  generalize hq_ : World.drewN w6 _ = w7
  have HQ7 := Aside0.mk (show w7.heap[gr]? = some (.cells #[.int .i64 0, .int .u64 0, .int .u64 0, .int .u64 0, .string (⟨#[]⟩ : ByteArray), .bool false] 29 (0, 0)) from by rw [← hq_]; exact HQ6.out)
  have HL7 := Aside0.mk (show w7.heap[g5]? = some (.cells curg5 23 (0, 0)) from by rw [← hq_]; exact HL6.out)
  have HE7 := Aside0.mk (show w7.heap[gE]? = some (.cells #[.int .i64 (a : Int), .int .u64 (n4 : Int), .int .u64 (n5 : Int), .int .u64 (n6 : Int), .string (s.extract (a + 22) s.size), .bool false] 29 (0, 0)) from by rw [← hq_]; exact HE6.out)
  have HL9 := Aside0.mk (show w7.heap[g9]? = some (.cells curg9 23 (0, 0)) from by rw [← hq_]; exact HLg9.out)
  have HB7 : Aside0 (Below w.heap.size w w7) := ⟨by rw [← hq_]; exact pw_below_drewN HB6.out _⟩
  clear hq_
  have HW3 := Aside0.mk hw3
  clear k0 k1 k4 k5 k6 k7 b_q0 b_q1 b_q4 b_q5 b_q6 hw2 hu2 hw3 hw4 hw5 hu5 HB6 HQ6 HL6 HE6 HLg9
  have k4 := (blk_cell HL7.out 4).trans (HCg5.out 4 _ rfl)
  have k5 := (blk_cell HL7.out 5).trans (HCg5.out 5 _ rfl)
  have k6 := (blk_cell HL7.out 6).trans (HCg5.out 6 _ rfl)
  have kk7 := (blk_cell HL9.out 7).trans (HCg9.out 7 _ rfl)
  have kk8 := (blk_cell HL9.out 8).trans (HCg9.out 8 _ rfl)
  have kk9 := (blk_cell HL9.out 9).trans (HCg9.out 9 _ rfl)
  go_upto_region 21 with (fail)
  go_cut [202] (fun v202 wx => v202 = .bool false ∧ Aside0 (Below w.heap.size w wx) ∧ Aside0 (wx.heap[gr]? = some (.cells #[.int .i64 0, .int .u64 0, .int .u64 0, .int .u64 0, .string (⟨#[]⟩ : ByteArray), .bool false] 29 (0, 0))) ∧ Aside0 (wx.heap[gE]? = some (.cells #[.int .i64 (a : Int), .int .u64 (n4 : Int), .int .u64 (n5 : Int), .int .u64 (n6 : Int), .string (s.extract (a + 22) s.size), .bool false] 29 (0, 0))) ∧ Aside0 (wx.heap[g9]? = some (.cells curg9 23 (0, 0))))
  case first =>
    have hag := HAG.out
    by_cases y0 : n4 = 65535
    · have z0 : ((n4 : Int) != 65535) = false := bne_eq_false_iff_eq.2 (by omega)
      have Y0 := Aside0.mk y0
      clear y0
      by_cases y1 : n5 = 4294967295
      · have z1 : ((n5 : Int) != 4294967295) = false := bne_eq_false_iff_eq.2 (by omega)
        have Y1 := Aside0.mk y1
        clear y1
        by_cases y2 : n6 = 4294967295
        · have z2 : ((n6 : Int) != 4294967295) = false := bne_eq_false_iff_eq.2 (by omega)
          have Y2 := Aside0.mk y2
          clear y2
          (try clear hag)
          as_aux_lemma =>
            go_quiet (fail)
            go_wp2_with (fail)
            go_meet
            exact ⟨rfl, ⟨pw_below_drewN HB7.out _⟩, ⟨HQ7.out⟩, ⟨HE7.out⟩, ⟨HL9.out⟩⟩
        · have z2 : ((n6 : Int) != 4294967295) = true := bne_iff_ne.2 (by omega)
          by_cases v2 : n6 = q9
          · have zz2 : ((n6 : Int) != (q9 : Int)) = false := bne_eq_false_iff_eq.2 (by omega)
            have V2 := Aside0.mk v2
            clear v2 y2
            (try clear hag)
            as_aux_lemma =>
              go_quiet (fail)
              go_wp2_with (fail)
              go_meet
              exact ⟨rfl, ⟨pw_below_drewN HB7.out _⟩, ⟨HQ7.out⟩, ⟨HE7.out⟩, ⟨HL9.out⟩⟩
          · have zz2 : ((n6 : Int) != (q9 : Int)) = true := bne_iff_ne.2 (by omega)
            exact absurd hag (fun h => by omega)
      · have z1 : ((n5 : Int) != 4294967295) = true := bne_iff_ne.2 (by omega)
        by_cases v1 : n5 = q8
        · have zz1 : ((n5 : Int) != (q8 : Int)) = false := bne_eq_false_iff_eq.2 (by omega)
          have V1 := Aside0.mk v1
          clear v1 y1
          by_cases y2 : n6 = 4294967295
          · have z2 : ((n6 : Int) != 4294967295) = false := bne_eq_false_iff_eq.2 (by omega)
            have Y2 := Aside0.mk y2
            clear y2
            (try clear hag)
            as_aux_lemma =>
              go_quiet (fail)
              go_wp2_with (fail)
              go_meet
              exact ⟨rfl, ⟨pw_below_drewN HB7.out _⟩, ⟨HQ7.out⟩, ⟨HE7.out⟩, ⟨HL9.out⟩⟩
          · have z2 : ((n6 : Int) != 4294967295) = true := bne_iff_ne.2 (by omega)
            by_cases v2 : n6 = q9
            · have zz2 : ((n6 : Int) != (q9 : Int)) = false := bne_eq_false_iff_eq.2 (by omega)
              have V2 := Aside0.mk v2
              clear v2 y2
              (try clear hag)
              as_aux_lemma =>
                go_quiet (fail)
                go_wp2_with (fail)
                go_meet
                exact ⟨rfl, ⟨pw_below_drewN HB7.out _⟩, ⟨HQ7.out⟩, ⟨HE7.out⟩, ⟨HL9.out⟩⟩
            · have zz2 : ((n6 : Int) != (q9 : Int)) = true := bne_iff_ne.2 (by omega)
              exact absurd hag (fun h => by omega)
        · have zz1 : ((n5 : Int) != (q8 : Int)) = true := bne_iff_ne.2 (by omega)
          exact absurd hag (fun h => by omega)
    · have z0 : ((n4 : Int) != 65535) = true := bne_iff_ne.2 (by omega)
      by_cases v0 : n4 = q7
      · have zz0 : ((n4 : Int) != (q7 : Int)) = false := bne_eq_false_iff_eq.2 (by omega)
        have V0 := Aside0.mk v0
        clear v0 y0
        by_cases y1 : n5 = 4294967295
        · have z1 : ((n5 : Int) != 4294967295) = false := bne_eq_false_iff_eq.2 (by omega)
          have Y1 := Aside0.mk y1
          clear y1
          by_cases y2 : n6 = 4294967295
          · have z2 : ((n6 : Int) != 4294967295) = false := bne_eq_false_iff_eq.2 (by omega)
            have Y2 := Aside0.mk y2
            clear y2
            (try clear hag)
            as_aux_lemma =>
              go_quiet (fail)
              go_wp2_with (fail)
              go_meet
              exact ⟨rfl, ⟨pw_below_drewN HB7.out _⟩, ⟨HQ7.out⟩, ⟨HE7.out⟩, ⟨HL9.out⟩⟩
          · have z2 : ((n6 : Int) != 4294967295) = true := bne_iff_ne.2 (by omega)
            by_cases v2 : n6 = q9
            · have zz2 : ((n6 : Int) != (q9 : Int)) = false := bne_eq_false_iff_eq.2 (by omega)
              have V2 := Aside0.mk v2
              clear v2 y2
              (try clear hag)
              as_aux_lemma =>
                go_quiet (fail)
                go_wp2_with (fail)
                go_meet
                exact ⟨rfl, ⟨pw_below_drewN HB7.out _⟩, ⟨HQ7.out⟩, ⟨HE7.out⟩, ⟨HL9.out⟩⟩
            · have zz2 : ((n6 : Int) != (q9 : Int)) = true := bne_iff_ne.2 (by omega)
              exact absurd hag (fun h => by omega)
        · have z1 : ((n5 : Int) != 4294967295) = true := bne_iff_ne.2 (by omega)
          by_cases v1 : n5 = q8
          · have zz1 : ((n5 : Int) != (q8 : Int)) = false := bne_eq_false_iff_eq.2 (by omega)
            have V1 := Aside0.mk v1
            clear v1 y1
            by_cases y2 : n6 = 4294967295
            · have z2 : ((n6 : Int) != 4294967295) = false := bne_eq_false_iff_eq.2 (by omega)
              have Y2 := Aside0.mk y2
              clear y2
              (try clear hag)
              as_aux_lemma =>
                go_quiet (fail)
                go_wp2_with (fail)
                go_meet
                exact ⟨rfl, ⟨pw_below_drewN HB7.out _⟩, ⟨HQ7.out⟩, ⟨HE7.out⟩, ⟨HL9.out⟩⟩
            · have z2 : ((n6 : Int) != 4294967295) = true := bne_iff_ne.2 (by omega)
              by_cases v2 : n6 = q9
              · have zz2 : ((n6 : Int) != (q9 : Int)) = false := bne_eq_false_iff_eq.2 (by omega)
                have V2 := Aside0.mk v2
                clear v2 y2
                (try clear hag)
                as_aux_lemma =>
                  go_quiet (fail)
                  go_wp2_with (fail)
                  go_meet
                  exact ⟨rfl, ⟨pw_below_drewN HB7.out _⟩, ⟨HQ7.out⟩, ⟨HE7.out⟩, ⟨HL9.out⟩⟩
              · have zz2 : ((n6 : Int) != (q9 : Int)) = true := bne_iff_ne.2 (by omega)
                exact absurd hag (fun h => by omega)
          · have zz1 : ((n5 : Int) != (q8 : Int)) = true := bne_iff_ne.2 (by omega)
            exact absurd hag (fun h => by omega)
      · have zz0 : ((n4 : Int) != (q7 : Int)) = true := bne_iff_ne.2 (by omega)
        exact absurd hag (fun h => by omega)
  obtain ⟨rfl, HB8, HQ8, HE8, HL8⟩ := hcut
  clear k4 k5 k6 kk7 kk8 kk9 HB7 HQ7 HE7 HL7 HL9
  go_upto_region 23 with (fail)
  have HBd := Aside0.mk (below_drew1 HB8.out)
  have HQd := Aside0.mk (blk_drew HQ8.out)
  have HEd := Aside0.mk (blk_drew HE8.out)
  have HLd := Aside0.mk (blk_drew HL8.out)
  refine start_ (n := 15) (S := fun w' => w'.cell? ⟨g9, 7, none⟩ = some (.int .u64 q7) ∧ w'.cell? ⟨g9, 8, none⟩ = some (.int .u64 q8) ∧ w'.cell? ⟨g9, 9, none⟩ = some (.int .u64 q9) ∧ w'.cell? ⟨gE, 4, none⟩ = some (.string (s.extract (a + 22) s.size))) (ds := [13]) #[false, false, false, false, false, false, false, false, false, false, false, false, false, false, false] (by as_aux_lemma => kernel_rfl) rfl rfl ⟨((blk_cell HLd.out 7).trans (HCg9.out 7 _ rfl)), ((blk_cell HLd.out 8).trans (HCg9.out 8 _ rfl)), ((blk_cell HLd.out 9).trans (HCg9.out 9 _ rfl)), (blk_cell HEd.out 4)⟩ (fun hHeld => ?_)
  generalize wc.drew = wd at HBd HQd HEd HLd hHeld ⊢
  refine pure_ (i := 0) (N := some 204) (v := ?_) (a' := ?_) #[true, false, false, false, false, false, false, false, false, false, false, false, false, false, false] rfl rfl (by as_aux_lemma => kernel_rfl) (fun _ _ _ h => h) (Or.inl ⟨by rfl, ?_⟩) ?_ ?_
  rotate_left
  · intro w'
    go_simp
    with_reducible rfl
  rotate_left
  · simp only [Act.put, List.setIfInBounds_toArray, List.set_cons_zero, List.set_cons_succ, i64_w, i32_w]
    rfl
  refine pure_ (i := 1) (N := some 205) (v := ?_) (a' := ?_) #[true, true, false, false, false, false, false, false, false, false, false, false, false, false, false] rfl rfl (by as_aux_lemma => kernel_rfl) (fun _ _ _ h => h) (Or.inl ⟨by rfl, ?_⟩) ?_ ?_
  rotate_left
  · intro w'
    go_simp
    with_reducible rfl
  rotate_left
  · simp only [Act.put, List.setIfInBounds_toArray, List.set_cons_zero, List.set_cons_succ, i64_w, i32_w]
    rfl
  refine pure_ (i := 2) (N := some 206) (v := ?_) (a' := ?_) #[true, true, true, false, false, false, false, false, false, false, false, false, false, false, false] rfl rfl (by as_aux_lemma => kernel_rfl) (fun _ _ _ h => h) (Or.inl ⟨by rfl, ?_⟩) ?_ ?_
  rotate_left
  · intro w'
    go_simp
    with_reducible rfl
  rotate_left
  · simp only [Act.put, List.setIfInBounds_toArray, List.set_cons_zero, List.set_cons_succ, i64_w, i32_w]
    rfl
  refine pure_ (i := 4) (N := some 208) (v := ?_) (a' := ?_) #[true, true, true, false, true, false, false, false, false, false, false, false, false, false, false] rfl rfl (by as_aux_lemma => kernel_rfl) (fun _ _ _ h => h) (Or.inl ⟨by rfl, ?_⟩) ?_ ?_
  rotate_left
  · intro w'
    go_simp
    with_reducible rfl
  rotate_left
  · simp only [Act.put, List.setIfInBounds_toArray, List.set_cons_zero, List.set_cons_succ, i64_w, i32_w]
    rfl
  refine pure_ (i := 5) (N := some 209) (v := ?_) (a' := ?_) #[true, true, true, false, true, true, false, false, false, false, false, false, false, false, false] rfl rfl (by as_aux_lemma => kernel_rfl) (fun _ _ _ h => h) (Or.inl ⟨by rfl, ?_⟩) ?_ ?_
  rotate_left
  · intro w'
    go_simp
    with_reducible rfl
  rotate_left
  · simp only [Act.put, List.setIfInBounds_toArray, List.set_cons_zero, List.set_cons_succ, i64_w, i32_w]
    rfl
  refine pure_ (i := 7) (N := some 211) (v := ?_) (a' := ?_) #[true, true, true, false, true, true, false, true, false, false, false, false, false, false, false] rfl rfl (by as_aux_lemma => kernel_rfl) (fun _ _ _ h => h) (Or.inl ⟨by rfl, ?_⟩) ?_ ?_
  rotate_left
  · intro w'
    go_simp
    with_reducible rfl
  rotate_left
  · simp only [Act.put, List.setIfInBounds_toArray, List.set_cons_zero, List.set_cons_succ, i64_w, i32_w]
    rfl
  refine pure_ (i := 8) (N := some 212) (v := ?_) (a' := ?_) #[true, true, true, false, true, true, false, true, true, false, false, false, false, false, false] rfl rfl (by as_aux_lemma => kernel_rfl) (fun _ _ _ h => h) (Or.inl ⟨by rfl, ?_⟩) ?_ ?_
  rotate_left
  · intro w'
    go_simp
    with_reducible rfl
  rotate_left
  · simp only [Act.put, List.setIfInBounds_toArray, List.set_cons_zero, List.set_cons_succ, i64_w, i32_w]
    rfl
  refine pure_ (i := 10) (N := some 214) (v := ?_) (a' := ?_) #[true, true, true, false, true, true, false, true, true, false, true, false, false, false, false] rfl rfl (by as_aux_lemma => kernel_rfl) (fun _ _ _ h => h) (Or.inl ⟨by rfl, ?_⟩) ?_ ?_
  rotate_left
  · intro w'
    go_simp
    with_reducible rfl
  rotate_left
  · simp only [Act.put, List.setIfInBounds_toArray, List.set_cons_zero, List.set_cons_succ, i64_w, i32_w]
    rfl
  refine take_ (i := 3) (N := some 207) (v := ?_) (a' := ?_) #[true, true, true, true, true, true, false, true, true, false, true, false, false, false, false] rfl rfl (by as_aux_lemma => kernel_rfl) (fun _ _ _ h => h) (Or.inl ⟨by rfl, ?_⟩) hHeld ?_ ?_
  rotate_left
  · rintro w' ⟨s0, s1, s2, s3⟩
    go_simp
    with_reducible rfl
  rotate_left
  · simp only [Act.put, List.setIfInBounds_toArray, List.set_cons_zero, List.set_cons_succ, i64_w, i32_w]
    rfl
  refine take_ (i := 6) (N := some 210) (v := ?_) (a' := ?_) #[true, true, true, true, true, true, true, true, true, false, true, false, false, false, false] rfl rfl (by as_aux_lemma => kernel_rfl) (fun _ _ _ h => h) (Or.inl ⟨by rfl, ?_⟩) hHeld ?_ ?_
  rotate_left
  · rintro w' ⟨s0, s1, s2, s3⟩
    go_simp
    with_reducible rfl
  rotate_left
  · simp only [Act.put, List.setIfInBounds_toArray, List.set_cons_zero, List.set_cons_succ, i64_w, i32_w]
    rfl
  refine take_ (i := 9) (N := some 213) (v := ?_) (a' := ?_) #[true, true, true, true, true, true, true, true, true, true, true, false, false, false, false] rfl rfl (by as_aux_lemma => kernel_rfl) (fun _ _ _ h => h) (Or.inl ⟨by rfl, ?_⟩) hHeld ?_ ?_
  rotate_left
  · rintro w' ⟨s0, s1, s2, s3⟩
    go_simp
    with_reducible rfl
  rotate_left
  · simp only [Act.put, List.setIfInBounds_toArray, List.set_cons_zero, List.set_cons_succ, i64_w, i32_w]
    rfl
  refine take_ (i := 11) (N := some 215) (v := ?_) (a' := ?_) #[true, true, true, true, true, true, true, true, true, true, true, true, false, false, false] rfl rfl (by as_aux_lemma => kernel_rfl) (fun _ _ _ h => h) (Or.inl ⟨by rfl, ?_⟩) hHeld ?_ ?_
  rotate_left
  · rintro w' ⟨s0, s1, s2, s3⟩
    go_simp
    with_reducible rfl
  rotate_left
  · simp only [Act.put, List.setIfInBounds_toArray, List.set_cons_zero, List.set_cons_succ, i64_w, i32_w]
    rfl
  refine pure_ (i := 12) (N := some 216) (v := ?_) (a' := ?_) #[true, true, true, true, true, true, true, true, true, true, true, true, true, false, false] rfl rfl (by as_aux_lemma => kernel_rfl) (fun _ _ _ h => h) (Or.inl ⟨by rfl, ?_⟩) ?_ ?_
  rotate_left
  · intro w'
    go_simp
    with_reducible rfl
  rotate_left
  · simp only [Act.put, List.setIfInBounds_toArray, List.set_cons_zero, List.set_cons_succ, i64_w, i32_w]
    rfl
  refine last_ (i := 13) (N := none) #[true, true, true, true, true, true, true, true, true, true, true, true, true, true, false] rfl rfl (by as_aux_lemma => kernel_rfl) (by decide) (fun K hK => ?_)
  have r0 := blk_cell HQd.out 0
  have z0 := blk_frozen HQd.out 0
  have r1 := blk_cell HQd.out 1
  have z1 := blk_frozen HQd.out 1
  have r2 := blk_cell HQd.out 2
  have z2 := blk_frozen HQd.out 2
  have r3 := blk_cell HQd.out 3
  have z3 := blk_frozen HQd.out 3
  have r4 := blk_cell HQd.out 4
  have z4 := blk_frozen HQd.out 4
  have r5 := blk_cell HQd.out 5
  have z5 := blk_frozen HQd.out 5
  refine skip_ (w1 := ?_) (by rfl) rfl ?_ ?_
  rotate_left
  · go_simp
    rfl
  refine hK.out _ _ ?_
  clear hK K
  refine pure_ (i := 14) (N := some 3) (v := ?_) (a' := ?_) #[true, true, true, true, true, true, true, true, true, true, true, true, true, true, true] rfl rfl (by as_aux_lemma => kernel_rfl) (fun _ _ _ h => h) (Or.inl ⟨by rfl, ?_⟩) ?_ ?_
  rotate_left
  · intro w'
    go_simp
    with_reducible rfl
  rotate_left
  · simp only [Act.put, List.setIfInBounds_toArray, List.set_cons_zero, List.set_cons_succ, i64_w, i32_w]
    rfl
  refine done_ (by as_aux_lemma => kernel_rfl) ?_
  clear hHeld
  go_wp2
  (try rw [HW3.out])
  have HQz := Aside0.mk (show ((((((wd.setCell ⟨gr, 0, none⟩ (.int .i64 (m2 : Int))).setCell ⟨gr, 1, none⟩ (.int .u64 (q7 : Int))).setCell ⟨gr, 2, none⟩ (.int .u64 (q8 : Int))).setCell ⟨gr, 3, none⟩ (.int .u64 (q9 : Int))).setCell ⟨gr, 4, none⟩ (.string (s.extract (a + 22) s.size))).setCell ⟨gr, 5, none⟩ (.bool true)).heap[gr]? = some (.cells #[.int .i64 (m2 : Int), .int .u64 (q7 : Int), .int .u64 (q8 : Int), .int .u64 (q9 : Int), .string (s.extract (a + 22) s.size), .bool true] 29 (0, 0)) by simpa using (blk_set (blk_set (blk_set (blk_set (blk_set (blk_set HQd.out 0 (.int .i64 (m2 : Int))) 1 (.int .u64 (q7 : Int))) 2 (.int .u64 (q8 : Int))) 3 (.int .u64 (q9 : Int))) 4 (.string (s.extract (a + 22) s.size))) 5 (.bool true)))
  have HBz := Aside0.mk (below_set (below_set (below_set (below_set (below_set (below_set HBd.out (Nat.le_of_eq HGR.out) (j := 0) (v := (.int .i64 (m2 : Int)))) (Nat.le_of_eq HGR.out) (j := 1) (v := (.int .u64 (q7 : Int)))) (Nat.le_of_eq HGR.out) (j := 2) (v := (.int .u64 (q8 : Int)))) (Nat.le_of_eq HGR.out) (j := 3) (v := (.int .u64 (q9 : Int)))) (Nat.le_of_eq HGR.out) (j := 4) (v := (.string (s.extract (a + 22) s.size)))) (Nat.le_of_eq HGR.out) (j := 5) (v := (.bool true)))
  generalize ((((((wd.setCell ⟨gr, 0, none⟩ (.int .i64 (m2 : Int))).setCell ⟨gr, 1, none⟩ (.int .u64 (q7 : Int))).setCell ⟨gr, 2, none⟩ (.int .u64 (q8 : Int))).setCell ⟨gr, 3, none⟩ (.int .u64 (q9 : Int))).setCell ⟨gr, 4, none⟩ (.string (s.extract (a + 22) s.size))).setCell ⟨gr, 5, none⟩ (.bool true)) = wz at HQz HBz ⊢
  have y0 := blk_cell HQz.out 0
  have y1 := blk_cell HQz.out 1
  have y2 := blk_cell HQz.out 2
  have y3 := blk_cell HQz.out 3
  have y4 := blk_cell HQz.out 4
  have y5 := blk_cell HQz.out 5
  simp only [List.getElem?_toArray, List.getElem?_cons_zero, List.getElem?_cons_succ] at y0 y1 y2 y3 y4 y5
  exact bodyPost_ret (v := .tuple #[.agg #[.int .i64 (m2 : Int), .int .u64 (q7 : Int), .int .u64 (q8 : Int), .int .u64 (q9 : Int), .string (s.extract (a + 22) s.size), .bool true], .int .i64 0]) (by simp [results, Try.results9, go_sem, y0, y1, y2, y3, y4, y5]) rfl ⟨rfl, HBz.out⟩
end Go.Proofs.Ytdooampgkiodjaa.P
