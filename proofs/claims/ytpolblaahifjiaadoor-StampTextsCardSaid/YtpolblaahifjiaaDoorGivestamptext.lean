/- stamp.Text: a date's text: the walk. Printed by gentext.py. -/
import Derived.Test.YtpolblaahifjiaaDoorDigits
import Derived.Lib.MinMaxS
namespace Go.Proofs.YtpolblaahifjiaaDoor.P
set_option linter.unusedVariables false
set_option linter.unusedSimpArgs false
open Go Go.RowKit Go.Lib Go.Proofs Go.Proofs.YtpolblaahifjiaaDoor.Fmt Go.Proofs.YtpolblaahifjiaaDoorW.PrintWords Go.Proofs.YtpolblaahifjiaaDoorW.PrintLast Go.Proofs.YtpolblaahifjiaaDoorW.PrintMore
theorem lex_le (a b : List UInt8) : (decide (a < b) || a == b) = !decide (b < a) := by
  rcases Std.lt_trichotomy a b with h | h | h
  · have : ¬ b < a := fun k => by exact absurd (Std.lt_trans h k) (Std.lt_irrefl)
    simp [h, this]
  · subst h; simp [Std.lt_irrefl]
  · have : ¬ a < b := fun k => by exact absurd (Std.lt_trans h k) (Std.lt_irrefl)
    have h2 : a ≠ b := fun e => by subst e; exact absurd h Std.lt_irrefl
    simp [h, this, h2]
theorem leq_str (t : TypeId) (a b : ByteArray) : binOp .leq t (.string a) (.string b) = pure (.bool (!(Op.bytesLess b.toList a.toList))) := by
  have h : binOp .leq t (.string a) (.string b) = pure (.bool (Op.bytesLess a.toList b.toList || a.toList == b.toList)) := by simp [binOp, Op.stringOp]
  rw [h, bytesLess_eq, bytesLess_eq, lex_le]
/-- A date's text. -/
def textL (a0 a1 a2 a3 a4 a5 : Nat) : List UInt8 := digL a0 4 ++ [45] ++ digL a1 2 ++ [45] ++ digL a2 2 ++ [84] ++ digL a3 2 ++ [58] ++ digL a4 2 ++ [58] ++ digL a5 2
def stamp_Text.f (a0 a1 a2 a3 a4 a5 : Int) : Option ByteArray := if 0 ≤ a0 ∧ a0 < 9223372036854775808 ∧ 0 ≤ a1 ∧ a1 < 9223372036854775808 ∧ 0 ≤ a2 ∧ a2 < 9223372036854775808 ∧ 0 ≤ a3 ∧ a3 < 9223372036854775808 ∧ 0 ≤ a4 ∧ a4 < 9223372036854775808 ∧ 0 ≤ a5 ∧ a5 < 9223372036854775808 then some ⟨(textL a0.toNat a1.toNat a2.toNat a3.toNat a4.toNat a5.toNat).toArray⟩ else none
theorem digL_le (n wide : Nat) (hn : n < 9223372036854775808) (hw : wide ≤ 20) : (digL n wide).length ≤ 20 := by
  have := digits_le n (by omega)
  simp only [digL, List.length_append, List.length_replicate]
  omega
theorem size_arr (l : List UInt8) : (⟨l.toArray⟩ : ByteArray).size = l.length := by simp [ByteArray.size]
set_option maxHeartbeats 12800000 in
set_option maxRecDepth 100000 in
theorem text_nat (n0 n1 n2 n3 n4 n5 : Nat) (b0 : n0 < 9223372036854775808) (b1 : n1 < 9223372036854775808) (b2 : n2 < 9223372036854775808) (b3 : n3 < 9223372036854775808) (b4 : n4 < 9223372036854775808) (b5 : n5 < 9223372036854775808) (w : World) (hT : Tab w) :
    Calls Tryd.prog 10 #[.agg #[.int .i64 (n0 : Int), .int .i64 (n1 : Int), .int .i64 (n2 : Int), .int .i64 (n3 : Int), .int .i64 (n4 : Int), .int .i64 (n5 : Int)]] w fun e w' => e = .returned (.string ⟨(textL n0 n1 n2 n3 n4 n5).toArray⟩) ∧ Below w.heap.size w w' := by
  have hu := Tryd.underlying24
  obtain ⟨D0, hD0⟩ : ∃ D : ByteArray, D = ⟨(digL n0 4).toArray⟩ := ⟨_, rfl⟩
  have s0 : D0.size ≤ 20 := by rw [hD0, size_arr]; exact digL_le _ _ b0 (by omega)
  have HD0 := Aside0.mk (show ∀ w, Tab w → Calls Tryd.prog 23 #[.int .i64 (n0 : Int), .int .i64 4] w fun e w' => e = .returned (.string D0) ∧ Below w.heap.size w w' from fun w h => by
    rw [hD0]
    exact digits_calls n0 4 b0 (by omega) w h)
  obtain ⟨D1, hD1⟩ : ∃ D : ByteArray, D = ⟨(digL n1 2).toArray⟩ := ⟨_, rfl⟩
  have s1 : D1.size ≤ 20 := by rw [hD1, size_arr]; exact digL_le _ _ b1 (by omega)
  have HD1 := Aside0.mk (show ∀ w, Tab w → Calls Tryd.prog 23 #[.int .i64 (n1 : Int), .int .i64 2] w fun e w' => e = .returned (.string D1) ∧ Below w.heap.size w w' from fun w h => by
    rw [hD1]
    exact digits_calls n1 2 b1 (by omega) w h)
  obtain ⟨D2, hD2⟩ : ∃ D : ByteArray, D = ⟨(digL n2 2).toArray⟩ := ⟨_, rfl⟩
  have s2 : D2.size ≤ 20 := by rw [hD2, size_arr]; exact digL_le _ _ b2 (by omega)
  have HD2 := Aside0.mk (show ∀ w, Tab w → Calls Tryd.prog 23 #[.int .i64 (n2 : Int), .int .i64 2] w fun e w' => e = .returned (.string D2) ∧ Below w.heap.size w w' from fun w h => by
    rw [hD2]
    exact digits_calls n2 2 b2 (by omega) w h)
  obtain ⟨D3, hD3⟩ : ∃ D : ByteArray, D = ⟨(digL n3 2).toArray⟩ := ⟨_, rfl⟩
  have s3 : D3.size ≤ 20 := by rw [hD3, size_arr]; exact digL_le _ _ b3 (by omega)
  have HD3 := Aside0.mk (show ∀ w, Tab w → Calls Tryd.prog 23 #[.int .i64 (n3 : Int), .int .i64 2] w fun e w' => e = .returned (.string D3) ∧ Below w.heap.size w w' from fun w h => by
    rw [hD3]
    exact digits_calls n3 2 b3 (by omega) w h)
  obtain ⟨D4, hD4⟩ : ∃ D : ByteArray, D = ⟨(digL n4 2).toArray⟩ := ⟨_, rfl⟩
  have s4 : D4.size ≤ 20 := by rw [hD4, size_arr]; exact digL_le _ _ b4 (by omega)
  have HD4 := Aside0.mk (show ∀ w, Tab w → Calls Tryd.prog 23 #[.int .i64 (n4 : Int), .int .i64 2] w fun e w' => e = .returned (.string D4) ∧ Below w.heap.size w w' from fun w h => by
    rw [hD4]
    exact digits_calls n4 2 b4 (by omega) w h)
  obtain ⟨D5, hD5⟩ : ∃ D : ByteArray, D = ⟨(digL n5 2).toArray⟩ := ⟨_, rfl⟩
  have s5 : D5.size ≤ 20 := by rw [hD5, size_arr]; exact digL_le _ _ b5 (by omega)
  have HD5 := Aside0.mk (show ∀ w, Tab w → Calls Tryd.prog 23 #[.int .i64 (n5 : Int), .int .i64 2] w fun e w' => e = .returned (.string D5) ∧ Below w.heap.size w w' from fun w h => by
    rw [hD5]
    exact digits_calls n5 2 b5 (by omega) w h)
  have yC1 := eq_false (show ¬ 9223372036854775807 < D0.size + 1 by omega)
  obtain ⟨C1, hC1⟩ : ∃ C : ByteArray, D0 ++ (⟨#[45]⟩ : ByteArray) = C := ⟨_, rfl⟩
  have zC1 : C1.size ≤ 21 := by rw [← hC1, ByteArray.size_append]; have : (⟨#[45]⟩ : ByteArray).size = 1 := rfl; omega
  have yC2 := eq_false (show ¬ 9223372036854775807 < C1.size + D1.size by omega)
  obtain ⟨C2, hC2⟩ : ∃ C : ByteArray, C1 ++ D1 = C := ⟨_, rfl⟩
  have zC2 : C2.size ≤ 41 := by rw [← hC2, ByteArray.size_append]; omega
  have yC3 := eq_false (show ¬ 9223372036854775807 < C2.size + 1 by omega)
  obtain ⟨C3, hC3⟩ : ∃ C : ByteArray, C2 ++ (⟨#[45]⟩ : ByteArray) = C := ⟨_, rfl⟩
  have zC3 : C3.size ≤ 42 := by rw [← hC3, ByteArray.size_append]; have : (⟨#[45]⟩ : ByteArray).size = 1 := rfl; omega
  have yC4 := eq_false (show ¬ 9223372036854775807 < C3.size + D2.size by omega)
  obtain ⟨C4, hC4⟩ : ∃ C : ByteArray, C3 ++ D2 = C := ⟨_, rfl⟩
  have zC4 : C4.size ≤ 62 := by rw [← hC4, ByteArray.size_append]; omega
  have yC5 := eq_false (show ¬ 9223372036854775807 < C4.size + 1 by omega)
  obtain ⟨C5, hC5⟩ : ∃ C : ByteArray, C4 ++ (⟨#[84]⟩ : ByteArray) = C := ⟨_, rfl⟩
  have zC5 : C5.size ≤ 63 := by rw [← hC5, ByteArray.size_append]; have : (⟨#[84]⟩ : ByteArray).size = 1 := rfl; omega
  have yC6 := eq_false (show ¬ 9223372036854775807 < C5.size + D3.size by omega)
  obtain ⟨C6, hC6⟩ : ∃ C : ByteArray, C5 ++ D3 = C := ⟨_, rfl⟩
  have zC6 : C6.size ≤ 83 := by rw [← hC6, ByteArray.size_append]; omega
  have yC7 := eq_false (show ¬ 9223372036854775807 < C6.size + 1 by omega)
  obtain ⟨C7, hC7⟩ : ∃ C : ByteArray, C6 ++ (⟨#[58]⟩ : ByteArray) = C := ⟨_, rfl⟩
  have zC7 : C7.size ≤ 84 := by rw [← hC7, ByteArray.size_append]; have : (⟨#[58]⟩ : ByteArray).size = 1 := rfl; omega
  have yC8 := eq_false (show ¬ 9223372036854775807 < C7.size + D4.size by omega)
  obtain ⟨C8, hC8⟩ : ∃ C : ByteArray, C7 ++ D4 = C := ⟨_, rfl⟩
  have zC8 : C8.size ≤ 104 := by rw [← hC8, ByteArray.size_append]; omega
  have yC9 := eq_false (show ¬ 9223372036854775807 < C8.size + 1 by omega)
  obtain ⟨C9, hC9⟩ : ∃ C : ByteArray, C8 ++ (⟨#[58]⟩ : ByteArray) = C := ⟨_, rfl⟩
  have zC9 : C9.size ≤ 105 := by rw [← hC9, ByteArray.size_append]; have : (⟨#[58]⟩ : ByteArray).size = 1 := rfl; omega
  have yC10 := eq_false (show ¬ 9223372036854775807 < C9.size + D5.size by omega)
  obtain ⟨C10, hC10⟩ : ∃ C : ByteArray, C9 ++ D5 = C := ⟨_, rfl⟩
  have zC10 : C10.size ≤ 125 := by rw [← hC10, ByteArray.size_append]; omega
  have HE := Aside0.mk (show C10 = ⟨(textL n0 n1 n2 n3 n4 n5).toArray⟩ by
    rw [← hC10, ← hC9, ← hC8, ← hC7, ← hC6, ← hC5, ← hC4, ← hC3, ← hC2, ← hC1, hD0, hD1, hD2, hD3, hD4, hD5]
    unfold textL
    rfl)
  clear hD0 hD1 hD2 hD3 hD4 hD5
  have HBa := Aside0.mk (below_alloc (Below.refl w.heap.size w) (.cells #[.int .i64 (n0 : Int), .int .i64 (n1 : Int), .int .i64 (n2 : Int), .int .i64 (n3 : Int), .int .i64 (n4 : Int), .int .i64 (n5 : Int)] 24))
  have Ha := Aside0.mk (heap_alloc_new w (.cells #[.int .i64 (n0 : Int), .int .i64 (n1 : Int), .int .i64 (n2 : Int), .int .i64 (n3 : Int), .int .i64 (n4 : Int), .int .i64 (n5 : Int)] 24))
  have HTa := Aside0.mk (tab_at hT HBa.out)
  clear hT
  go_enter Tryd.func10, Tryd.ntmps10
  go_upto_region 1 with (fail)
  generalize w.alloc (.cells #[.int .i64 (n0 : Int), .int .i64 (n1 : Int), .int .i64 (n2 : Int), .int .i64 (n3 : Int), .int .i64 (n4 : Int), .int .i64 (n5 : Int)] 24) = wa at HBa Ha HTa ⊢
  obtain ⟨g, hg⟩ : ∃ g, w.heap.size = g := ⟨_, rfl⟩
  rw [hg] at Ha ⊢
  refine start_ (n := 29) (S := fun w' => w'.cell? ⟨g, 0, none⟩ = some (.int .i64 (n0 : Int)) ∧ w'.cell? ⟨g, 1, none⟩ = some (.int .i64 (n1 : Int)) ∧ w'.cell? ⟨g, 2, none⟩ = some (.int .i64 (n2 : Int)) ∧ w'.cell? ⟨g, 3, none⟩ = some (.int .i64 (n3 : Int)) ∧ w'.cell? ⟨g, 4, none⟩ = some (.int .i64 (n4 : Int)) ∧ w'.cell? ⟨g, 5, none⟩ = some (.int .i64 (n5 : Int))) (ds := []) #[false, false, false, false, false, false, false, false, false, false, false, false, false, false, false, false, false, false, false, false, false, false, false, false, false, false, false, false, false] (by kernel_rfl) rfl rfl ⟨(blk_cell Ha.out 0), (blk_cell Ha.out 1), (blk_cell Ha.out 2), (blk_cell Ha.out 3), (blk_cell Ha.out 4), (blk_cell Ha.out 5)⟩ (fun hHeld => ?_)
  refine pure_ (i := 0) (N := some 3) (v := ?_) (a' := ?_) #[true, false, false, false, false, false, false, false, false, false, false, false, false, false, false, false, false, false, false, false, false, false, false, false, false, false, false, false, false] rfl rfl (by kernel_rfl) (fun _ _ _ h => h) (Or.inl ⟨by rfl, ?_⟩) ?_ ?_
  rotate_left
  · intro w'
    go_simp
    with_reducible rfl
  rotate_left
  · simp only [Act.put, List.setIfInBounds_toArray, List.set_cons_zero, List.set_cons_succ, i64_w, i32_w]
    rfl
  refine pure_ (i := 4) (N := some 7) (v := ?_) (a' := ?_) #[true, false, false, false, true, false, false, false, false, false, false, false, false, false, false, false, false, false, false, false, false, false, false, false, false, false, false, false, false] rfl rfl (by kernel_rfl) (fun _ _ _ h => h) (Or.inl ⟨by rfl, ?_⟩) ?_ ?_
  rotate_left
  · intro w'
    go_simp
    with_reducible rfl
  rotate_left
  · simp only [Act.put, List.setIfInBounds_toArray, List.set_cons_zero, List.set_cons_succ, i64_w, i32_w]
    rfl
  refine pure_ (i := 9) (N := some 12) (v := ?_) (a' := ?_) #[true, false, false, false, true, false, false, false, false, true, false, false, false, false, false, false, false, false, false, false, false, false, false, false, false, false, false, false, false] rfl rfl (by kernel_rfl) (fun _ _ _ h => h) (Or.inl ⟨by rfl, ?_⟩) ?_ ?_
  rotate_left
  · intro w'
    go_simp
    with_reducible rfl
  rotate_left
  · simp only [Act.put, List.setIfInBounds_toArray, List.set_cons_zero, List.set_cons_succ, i64_w, i32_w]
    rfl
  refine pure_ (i := 14) (N := some 17) (v := ?_) (a' := ?_) #[true, false, false, false, true, false, false, false, false, true, false, false, false, false, true, false, false, false, false, false, false, false, false, false, false, false, false, false, false] rfl rfl (by kernel_rfl) (fun _ _ _ h => h) (Or.inl ⟨by rfl, ?_⟩) ?_ ?_
  rotate_left
  · intro w'
    go_simp
    with_reducible rfl
  rotate_left
  · simp only [Act.put, List.setIfInBounds_toArray, List.set_cons_zero, List.set_cons_succ, i64_w, i32_w]
    rfl
  refine pure_ (i := 19) (N := some 22) (v := ?_) (a' := ?_) #[true, false, false, false, true, false, false, false, false, true, false, false, false, false, true, false, false, false, false, true, false, false, false, false, false, false, false, false, false] rfl rfl (by kernel_rfl) (fun _ _ _ h => h) (Or.inl ⟨by rfl, ?_⟩) ?_ ?_
  rotate_left
  · intro w'
    go_simp
    with_reducible rfl
  rotate_left
  · simp only [Act.put, List.setIfInBounds_toArray, List.set_cons_zero, List.set_cons_succ, i64_w, i32_w]
    rfl
  refine pure_ (i := 24) (N := some 27) (v := ?_) (a' := ?_) #[true, false, false, false, true, false, false, false, false, true, false, false, false, false, true, false, false, false, false, true, false, false, false, false, true, false, false, false, false] rfl rfl (by kernel_rfl) (fun _ _ _ h => h) (Or.inl ⟨by rfl, ?_⟩) ?_ ?_
  rotate_left
  · intro w'
    go_simp
    with_reducible rfl
  rotate_left
  · simp only [Act.put, List.setIfInBounds_toArray, List.set_cons_zero, List.set_cons_succ, i64_w, i32_w]
    rfl
  refine take_ (i := 1) (N := some 4) (v := ?_) (a' := ?_) #[true, true, false, false, true, false, false, false, false, true, false, false, false, false, true, false, false, false, false, true, false, false, false, false, true, false, false, false, false] rfl rfl (by kernel_rfl) (fun _ _ _ h => h) (Or.inl ⟨by rfl, ?_⟩) hHeld ?_ ?_
  rotate_left
  · rintro w' ⟨s0, s1, s2, s3, s4, s5⟩
    go_simp
    with_reducible rfl
  rotate_left
  · simp only [Act.put, List.setIfInBounds_toArray, List.set_cons_zero, List.set_cons_succ, i64_w, i32_w]
    rfl
  refine take_ (i := 5) (N := some 8) (v := ?_) (a' := ?_) #[true, true, false, false, true, true, false, false, false, true, false, false, false, false, true, false, false, false, false, true, false, false, false, false, true, false, false, false, false] rfl rfl (by kernel_rfl) (fun _ _ _ h => h) (Or.inl ⟨by rfl, ?_⟩) hHeld ?_ ?_
  rotate_left
  · rintro w' ⟨s0, s1, s2, s3, s4, s5⟩
    go_simp
    with_reducible rfl
  rotate_left
  · simp only [Act.put, List.setIfInBounds_toArray, List.set_cons_zero, List.set_cons_succ, i64_w, i32_w]
    rfl
  refine take_ (i := 10) (N := some 13) (v := ?_) (a' := ?_) #[true, true, false, false, true, true, false, false, false, true, true, false, false, false, true, false, false, false, false, true, false, false, false, false, true, false, false, false, false] rfl rfl (by kernel_rfl) (fun _ _ _ h => h) (Or.inl ⟨by rfl, ?_⟩) hHeld ?_ ?_
  rotate_left
  · rintro w' ⟨s0, s1, s2, s3, s4, s5⟩
    go_simp
    with_reducible rfl
  rotate_left
  · simp only [Act.put, List.setIfInBounds_toArray, List.set_cons_zero, List.set_cons_succ, i64_w, i32_w]
    rfl
  refine take_ (i := 15) (N := some 18) (v := ?_) (a' := ?_) #[true, true, false, false, true, true, false, false, false, true, true, false, false, false, true, true, false, false, false, true, false, false, false, false, true, false, false, false, false] rfl rfl (by kernel_rfl) (fun _ _ _ h => h) (Or.inl ⟨by rfl, ?_⟩) hHeld ?_ ?_
  rotate_left
  · rintro w' ⟨s0, s1, s2, s3, s4, s5⟩
    go_simp
    with_reducible rfl
  rotate_left
  · simp only [Act.put, List.setIfInBounds_toArray, List.set_cons_zero, List.set_cons_succ, i64_w, i32_w]
    rfl
  refine take_ (i := 20) (N := some 23) (v := ?_) (a' := ?_) #[true, true, false, false, true, true, false, false, false, true, true, false, false, false, true, true, false, false, false, true, true, false, false, false, true, false, false, false, false] rfl rfl (by kernel_rfl) (fun _ _ _ h => h) (Or.inl ⟨by rfl, ?_⟩) hHeld ?_ ?_
  rotate_left
  · rintro w' ⟨s0, s1, s2, s3, s4, s5⟩
    go_simp
    with_reducible rfl
  rotate_left
  · simp only [Act.put, List.setIfInBounds_toArray, List.set_cons_zero, List.set_cons_succ, i64_w, i32_w]
    rfl
  refine take_ (i := 25) (N := some 28) (v := ?_) (a' := ?_) #[true, true, false, false, true, true, false, false, false, true, true, false, false, false, true, true, false, false, false, true, true, false, false, false, true, true, false, false, false] rfl rfl (by kernel_rfl) (fun _ _ _ h => h) (Or.inl ⟨by rfl, ?_⟩) hHeld ?_ ?_
  rotate_left
  · rintro w' ⟨s0, s1, s2, s3, s4, s5⟩
    go_simp
    with_reducible rfl
  rotate_left
  · simp only [Act.put, List.setIfInBounds_toArray, List.set_cons_zero, List.set_cons_succ, i64_w, i32_w]
    rfl
  refine one_ (i := 2) (N := some 5) #[true, true, true, false, true, true, false, false, false, true, true, false, false, false, true, true, false, false, false, true, true, false, false, false, true, true, false, false, false] rfl rfl (by kernel_rfl) (by decide) (fun K hK => ?_)
  refine goes_ Tryd.func23 (by kernel_rfl) rfl #[.int .i64 (n0 : Int), .int .i64 4] (by rfl) rfl rfl (by simp only [List.map_toArray, List.map_cons, List.map_nil]; rfl) ?_
  with_reducible refine ((HD0.out _ (tab_at HTa.out (below_drew1 (Below.refl _ _))))).mono ?_
  rintro e w0 ⟨rfl, hb⟩
  refine ⟨_, rfl, ?_⟩
  have HT0 := Aside0.mk (tab_at (tab_at HTa.out (below_drew1 (Below.refl _ _))) hb); have H0 := Aside0.mk (blk_below (blk_drew Ha.out) hb); have HB0 := Aside0.mk (below_step (below_drew1 HBa.out) hb); clear hb
  refine hK.out _ _ ⟨(blk_cell H0.out 0), (blk_cell H0.out 1), (blk_cell H0.out 2), (blk_cell H0.out 3), (blk_cell H0.out 4), (blk_cell H0.out 5)⟩ (fun hHeld => ?_)
  clear hK K
  refine norm_ (a' := ?_) ?_ ?_
  rotate_left
  · show Act.put _ (some 5) _ = _
    simp only [Act.put, List.setIfInBounds_toArray, List.set_cons_zero, List.set_cons_succ, i64_w, i32_w]
    rfl
  refine pure_ (i := 3) (N := some 6) (v := ?_) (a' := ?_) #[true, true, true, true, true, true, false, false, false, true, true, false, false, false, true, true, false, false, false, true, true, false, false, false, true, true, false, false, false] rfl rfl (by kernel_rfl) (fun _ _ _ h => h) (Or.inl ⟨by rfl, ?_⟩) ?_ ?_
  rotate_left
  · intro w'
    go_simp
    with_reducible rfl
  rotate_left
  · simp only [Act.put, List.setIfInBounds_toArray, List.set_cons_zero, List.set_cons_succ, i64_w, i32_w]
    rfl
  refine one_ (i := 6) (N := some 9) #[true, true, true, true, true, true, true, false, false, true, true, false, false, false, true, true, false, false, false, true, true, false, false, false, true, true, false, false, false] rfl rfl (by kernel_rfl) (by decide) (fun K hK => ?_)
  refine goes_ Tryd.func23 (by kernel_rfl) rfl #[.int .i64 (n1 : Int), .int .i64 2] (by rfl) rfl rfl (by simp only [List.map_toArray, List.map_cons, List.map_nil]; rfl) ?_
  with_reducible refine ((HD1.out _ HT0.out)).mono ?_
  rintro e w1 ⟨rfl, hb⟩
  refine ⟨_, rfl, ?_⟩
  have HT1 := Aside0.mk (tab_at HT0.out hb); have H1 := Aside0.mk (blk_below H0.out hb); have HB1 := Aside0.mk (below_step HB0.out hb); clear hb
  refine hK.out _ _ ⟨(blk_cell H1.out 0), (blk_cell H1.out 1), (blk_cell H1.out 2), (blk_cell H1.out 3), (blk_cell H1.out 4), (blk_cell H1.out 5)⟩ (fun hHeld => ?_)
  clear hK K
  refine norm_ (a' := ?_) ?_ ?_
  rotate_left
  · show Act.put _ (some 9) _ = _
    simp only [Act.put, List.setIfInBounds_toArray, List.set_cons_zero, List.set_cons_succ, i64_w, i32_w]
    rfl
  refine pure_ (i := 7) (N := some 10) (v := ?_) (a' := ?_) #[true, true, true, true, true, true, true, true, false, true, true, false, false, false, true, true, false, false, false, true, true, false, false, false, true, true, false, false, false] rfl rfl (by kernel_rfl) (fun _ _ _ h => h) (Or.inl ⟨by rfl, ?_⟩) ?_ ?_
  rotate_left
  · intro w'
    go_simp
    with_reducible rfl
  rotate_left
  · simp only [Act.put, List.setIfInBounds_toArray, List.set_cons_zero, List.set_cons_succ, i64_w, i32_w]
    rfl
  refine pure_ (i := 8) (N := some 11) (v := ?_) (a' := ?_) #[true, true, true, true, true, true, true, true, true, true, true, false, false, false, true, true, false, false, false, true, true, false, false, false, true, true, false, false, false] rfl rfl (by kernel_rfl) (fun _ _ _ h => h) (Or.inl ⟨by rfl, ?_⟩) ?_ ?_
  rotate_left
  · intro w'
    go_simp
    with_reducible rfl
  rotate_left
  · simp only [Act.put, List.setIfInBounds_toArray, List.set_cons_zero, List.set_cons_succ, i64_w, i32_w]
    rfl
  refine one_ (i := 11) (N := some 14) #[true, true, true, true, true, true, true, true, true, true, true, true, false, false, true, true, false, false, false, true, true, false, false, false, true, true, false, false, false] rfl rfl (by kernel_rfl) (by decide) (fun K hK => ?_)
  refine goes_ Tryd.func23 (by kernel_rfl) rfl #[.int .i64 (n2 : Int), .int .i64 2] (by rfl) rfl rfl (by simp only [List.map_toArray, List.map_cons, List.map_nil]; rfl) ?_
  with_reducible refine ((HD2.out _ HT1.out)).mono ?_
  rintro e w2 ⟨rfl, hb⟩
  refine ⟨_, rfl, ?_⟩
  have HT2 := Aside0.mk (tab_at HT1.out hb); have H2 := Aside0.mk (blk_below H1.out hb); have HB2 := Aside0.mk (below_step HB1.out hb); clear hb
  refine hK.out _ _ ⟨(blk_cell H2.out 0), (blk_cell H2.out 1), (blk_cell H2.out 2), (blk_cell H2.out 3), (blk_cell H2.out 4), (blk_cell H2.out 5)⟩ (fun hHeld => ?_)
  clear hK K
  refine norm_ (a' := ?_) ?_ ?_
  rotate_left
  · show Act.put _ (some 14) _ = _
    simp only [Act.put, List.setIfInBounds_toArray, List.set_cons_zero, List.set_cons_succ, i64_w, i32_w]
    rfl
  refine pure_ (i := 12) (N := some 15) (v := ?_) (a' := ?_) #[true, true, true, true, true, true, true, true, true, true, true, true, true, false, true, true, false, false, false, true, true, false, false, false, true, true, false, false, false] rfl rfl (by kernel_rfl) (fun _ _ _ h => h) (Or.inl ⟨by rfl, ?_⟩) ?_ ?_
  rotate_left
  · intro w'
    go_simp
    with_reducible rfl
  rotate_left
  · simp only [Act.put, List.setIfInBounds_toArray, List.set_cons_zero, List.set_cons_succ, i64_w, i32_w]
    rfl
  refine pure_ (i := 13) (N := some 16) (v := ?_) (a' := ?_) #[true, true, true, true, true, true, true, true, true, true, true, true, true, true, true, true, false, false, false, true, true, false, false, false, true, true, false, false, false] rfl rfl (by kernel_rfl) (fun _ _ _ h => h) (Or.inl ⟨by rfl, ?_⟩) ?_ ?_
  rotate_left
  · intro w'
    go_simp
    with_reducible rfl
  rotate_left
  · simp only [Act.put, List.setIfInBounds_toArray, List.set_cons_zero, List.set_cons_succ, i64_w, i32_w]
    rfl
  refine one_ (i := 16) (N := some 19) #[true, true, true, true, true, true, true, true, true, true, true, true, true, true, true, true, true, false, false, true, true, false, false, false, true, true, false, false, false] rfl rfl (by kernel_rfl) (by decide) (fun K hK => ?_)
  refine goes_ Tryd.func23 (by kernel_rfl) rfl #[.int .i64 (n3 : Int), .int .i64 2] (by rfl) rfl rfl (by simp only [List.map_toArray, List.map_cons, List.map_nil]; rfl) ?_
  with_reducible refine ((HD3.out _ HT2.out)).mono ?_
  rintro e w3 ⟨rfl, hb⟩
  refine ⟨_, rfl, ?_⟩
  have HT3 := Aside0.mk (tab_at HT2.out hb); have H3 := Aside0.mk (blk_below H2.out hb); have HB3 := Aside0.mk (below_step HB2.out hb); clear hb
  refine hK.out _ _ ⟨(blk_cell H3.out 0), (blk_cell H3.out 1), (blk_cell H3.out 2), (blk_cell H3.out 3), (blk_cell H3.out 4), (blk_cell H3.out 5)⟩ (fun hHeld => ?_)
  clear hK K
  refine norm_ (a' := ?_) ?_ ?_
  rotate_left
  · show Act.put _ (some 19) _ = _
    simp only [Act.put, List.setIfInBounds_toArray, List.set_cons_zero, List.set_cons_succ, i64_w, i32_w]
    rfl
  refine pure_ (i := 17) (N := some 20) (v := ?_) (a' := ?_) #[true, true, true, true, true, true, true, true, true, true, true, true, true, true, true, true, true, true, false, true, true, false, false, false, true, true, false, false, false] rfl rfl (by kernel_rfl) (fun _ _ _ h => h) (Or.inl ⟨by rfl, ?_⟩) ?_ ?_
  rotate_left
  · intro w'
    go_simp
    with_reducible rfl
  rotate_left
  · simp only [Act.put, List.setIfInBounds_toArray, List.set_cons_zero, List.set_cons_succ, i64_w, i32_w]
    rfl
  refine pure_ (i := 18) (N := some 21) (v := ?_) (a' := ?_) #[true, true, true, true, true, true, true, true, true, true, true, true, true, true, true, true, true, true, true, true, true, false, false, false, true, true, false, false, false] rfl rfl (by kernel_rfl) (fun _ _ _ h => h) (Or.inl ⟨by rfl, ?_⟩) ?_ ?_
  rotate_left
  · intro w'
    go_simp
    with_reducible rfl
  rotate_left
  · simp only [Act.put, List.setIfInBounds_toArray, List.set_cons_zero, List.set_cons_succ, i64_w, i32_w]
    rfl
  refine one_ (i := 21) (N := some 24) #[true, true, true, true, true, true, true, true, true, true, true, true, true, true, true, true, true, true, true, true, true, true, false, false, true, true, false, false, false] rfl rfl (by kernel_rfl) (by decide) (fun K hK => ?_)
  refine goes_ Tryd.func23 (by kernel_rfl) rfl #[.int .i64 (n4 : Int), .int .i64 2] (by rfl) rfl rfl (by simp only [List.map_toArray, List.map_cons, List.map_nil]; rfl) ?_
  with_reducible refine ((HD4.out _ HT3.out)).mono ?_
  rintro e w4 ⟨rfl, hb⟩
  refine ⟨_, rfl, ?_⟩
  have HT4 := Aside0.mk (tab_at HT3.out hb); have H4 := Aside0.mk (blk_below H3.out hb); have HB4 := Aside0.mk (below_step HB3.out hb); clear hb
  refine hK.out _ _ ⟨(blk_cell H4.out 0), (blk_cell H4.out 1), (blk_cell H4.out 2), (blk_cell H4.out 3), (blk_cell H4.out 4), (blk_cell H4.out 5)⟩ (fun hHeld => ?_)
  clear hK K
  refine norm_ (a' := ?_) ?_ ?_
  rotate_left
  · show Act.put _ (some 24) _ = _
    simp only [Act.put, List.setIfInBounds_toArray, List.set_cons_zero, List.set_cons_succ, i64_w, i32_w]
    rfl
  refine pure_ (i := 22) (N := some 25) (v := ?_) (a' := ?_) #[true, true, true, true, true, true, true, true, true, true, true, true, true, true, true, true, true, true, true, true, true, true, true, false, true, true, false, false, false] rfl rfl (by kernel_rfl) (fun _ _ _ h => h) (Or.inl ⟨by rfl, ?_⟩) ?_ ?_
  rotate_left
  · intro w'
    go_simp
    with_reducible rfl
  rotate_left
  · simp only [Act.put, List.setIfInBounds_toArray, List.set_cons_zero, List.set_cons_succ, i64_w, i32_w]
    rfl
  refine pure_ (i := 23) (N := some 26) (v := ?_) (a' := ?_) #[true, true, true, true, true, true, true, true, true, true, true, true, true, true, true, true, true, true, true, true, true, true, true, true, true, true, false, false, false] rfl rfl (by kernel_rfl) (fun _ _ _ h => h) (Or.inl ⟨by rfl, ?_⟩) ?_ ?_
  rotate_left
  · intro w'
    go_simp
    with_reducible rfl
  rotate_left
  · simp only [Act.put, List.setIfInBounds_toArray, List.set_cons_zero, List.set_cons_succ, i64_w, i32_w]
    rfl
  refine one_ (i := 26) (N := some 29) #[true, true, true, true, true, true, true, true, true, true, true, true, true, true, true, true, true, true, true, true, true, true, true, true, true, true, true, false, false] rfl rfl (by kernel_rfl) (by decide) (fun K hK => ?_)
  refine goes_ Tryd.func23 (by kernel_rfl) rfl #[.int .i64 (n5 : Int), .int .i64 2] (by rfl) rfl rfl (by simp only [List.map_toArray, List.map_cons, List.map_nil]; rfl) ?_
  with_reducible refine ((HD5.out _ HT4.out)).mono ?_
  rintro e w5 ⟨rfl, hb⟩
  refine ⟨_, rfl, ?_⟩
  have HT5 := Aside0.mk (tab_at HT4.out hb); have H5 := Aside0.mk (blk_below H4.out hb); have HB5 := Aside0.mk (below_step HB4.out hb); clear hb
  refine hK.out _ _ ⟨(blk_cell H5.out 0), (blk_cell H5.out 1), (blk_cell H5.out 2), (blk_cell H5.out 3), (blk_cell H5.out 4), (blk_cell H5.out 5)⟩ (fun hHeld => ?_)
  clear hK K
  refine norm_ (a' := ?_) ?_ ?_
  rotate_left
  · show Act.put _ (some 29) _ = _
    simp only [Act.put, List.setIfInBounds_toArray, List.set_cons_zero, List.set_cons_succ, i64_w, i32_w]
    rfl
  refine pure_ (i := 27) (N := some 30) (v := ?_) (a' := ?_) #[true, true, true, true, true, true, true, true, true, true, true, true, true, true, true, true, true, true, true, true, true, true, true, true, true, true, true, true, false] rfl rfl (by kernel_rfl) (fun _ _ _ h => h) (Or.inl ⟨by rfl, ?_⟩) ?_ ?_
  rotate_left
  · intro w'
    go_simp
    with_reducible rfl
  rotate_left
  · simp only [Act.put, List.setIfInBounds_toArray, List.set_cons_zero, List.set_cons_succ, i64_w, i32_w]
    rfl
  refine pure_ (i := 28) (N := some 2) (v := ?_) (a' := ?_) #[true, true, true, true, true, true, true, true, true, true, true, true, true, true, true, true, true, true, true, true, true, true, true, true, true, true, true, true, true] rfl rfl (by kernel_rfl) (fun _ _ _ h => h) (Or.inl ⟨by rfl, ?_⟩) ?_ ?_
  rotate_left
  · intro w'
    go_simp
    with_reducible rfl
  rotate_left
  · simp only [Act.put, List.setIfInBounds_toArray, List.set_cons_zero, List.set_cons_succ, i64_w, i32_w]
    rfl
  refine done_ (by kernel_rfl) ?_
  go_wp2
  go_ret
  exact ⟨by rw [← HE.out]; rfl, HB5.out⟩
theorem stamp_Text.calls (a0 a1 a2 a3 a4 a5 : Int) (r : ByteArray) (w : World) (h : stamp_Text.f a0 a1 a2 a3 a4 a5 = some r) (hT : Tab w) :
    Calls Tryd.prog 10 #[.agg #[.int .i64 a0, .int .i64 a1, .int .i64 a2, .int .i64 a3, .int .i64 a4, .int .i64 a5]] w fun e w' => e = .returned (.string r) ∧ Below w.heap.size w w' := by
  unfold stamp_Text.f at h
  split at h
  · rename_i hb
    obtain rfl := Option.some.inj h
    have := text_nat a0.toNat a1.toNat a2.toNat a3.toNat a4.toNat a5.toNat (by omega) (by omega) (by omega) (by omega) (by omega) (by omega) w hT
    rwa [show ((a0.toNat : Nat) : Int) = a0 by omega, show ((a1.toNat : Nat) : Int) = a1 by omega, show ((a2.toNat : Nat) : Int) = a2 by omega, show ((a3.toNat : Nat) : Int) = a3 by omega, show ((a4.toNat : Nat) : Int) = a4 by omega, show ((a5.toNat : Nat) : Int) = a5 by omega] at this
  · cases h
end Go.Proofs.YtpolblaahifjiaaDoor.P
