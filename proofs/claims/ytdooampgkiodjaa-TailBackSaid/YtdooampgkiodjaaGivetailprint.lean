/- tail.Print: an end record's bytes, by a strings.Builder: the walk. Printed by gentail.py. -/
import Derived.Test.YtdooampgkiodjaaBuildK
import Derived.Test.YtdooampgkiodjaaNumO2
import Derived.Test.YtdooampgkiodjaaNumO4
import Derived.Test.YtdooampgkiodjaaNumO8
import Derived.Test.YtdooampgkiodjaaPx9
namespace Go.Proofs.Ytdooampgkiodjaa.P
set_option linter.unusedVariables false
set_option linter.unusedSimpArgs false
open Go Go.RowKit Go.Proofs.Ytdooampgkiodjaa.B Go.Proofs.Ytdooampgkiodjaa.Num Go.Proofs.Ytdooampgkiodjaa.Sb Go.Proofs.YtdooampgkiodjaaW.PrintWords Go.Proofs.YtdooampgkiodjaaW.PrintLast Go.Proofs.YtdooampgkiodjaaW.PrintMore

/-- The end record's own bytes. -/
def endB (n z o : Nat) (c : List UInt8) : List UInt8 := [80, 75, 5, 6] ++ ofN 2 0 ++ ofN 2 0 ++ ofN 2 n ++ ofN 2 n ++ ofN 4 z ++ ofN 4 o ++ (ofN 2 c.length ++ c)
/-- The wide one's, and its locator's. -/
def wideB (n z o : Nat) : List UInt8 := ([80, 75, 6, 6] ++ ofN 8 44 ++ ofN 2 45 ++ ofN 2 45 ++ ofN 4 0 ++ ofN 4 0) ++ (ofN 8 n ++ ofN 8 n ++ ofN 8 z ++ ofN 8 o) ++ ([80, 75, 6, 7] ++ ofN 4 0 ++ ofN 8 ((o + z) % 18446744073709551616) ++ ofN 4 1)
def tailGo (n z o : Nat) (c : ByteArray) (wide : Bool) : ByteArray × Int :=
  if 65535 < c.size then (⟨#[]⟩, 5)
  else if wide = true then (strN (wideB n z o ++ endB 65535 4294967295 4294967295 c.data.toList), 0)
  else if 65535 ≤ n then (⟨#[]⟩, 8) else if 4294967295 ≤ z then (⟨#[]⟩, 8) else if 4294967295 ≤ o then (⟨#[]⟩, 8)
  else (strN (endB n z o c.data.toList), 0)
def tail_Print.f (a0_0 a0_1 a0_2 a0_3 : Int) (a0_4 : ByteArray) (a0_5 : Bool) : Option (ByteArray × Int) :=
  if (0 ≤ a0_1 ∧ a0_1 < 18446744073709551616) ∧ (0 ≤ a0_2 ∧ a0_2 < 18446744073709551616) ∧ (0 ≤ a0_3 ∧ a0_3 < 18446744073709551616) then some (tailGo a0_1.toNat a0_2.toNat a0_3.toNat a0_4 a0_5) else none
set_option maxHeartbeats 8000000 in
set_option maxRecDepth 100000 in
theorem tail_Print.calls (a0_0 a0_1 a0_2 a0_3 : Int) (a0_4 : ByteArray) (a0_5 : Bool) (r1 : ByteArray) (r2 : Int) (w : World) (h : tail_Print.f a0_0 a0_1 a0_2 a0_3 a0_4 a0_5 = some (r1, r2)) :
    Calls Try.prog 10 #[.agg #[.int .i64 a0_0, .int .u64 a0_1, .int .u64 a0_2, .int .u64 a0_3, .string a0_4, .bool a0_5]] w fun e w' => e = .returned (.tuple #[.string r1, .int .i64 r2]) ∧ Below w.heap.size w w' := by
  unfold tail_Print.f at h
  split at h
  case isFalse => cases h
  case isTrue hb =>
  obtain ⟨⟨b1, b2⟩, ⟨b3, b4⟩, ⟨b5, b6⟩⟩ := hb
  have hres : tailGo a0_1.toNat a0_2.toNat a0_3.toNat a0_4 a0_5 = (r1, r2) := Option.some.inj h
  obtain ⟨f1, rfl⟩ : ∃ x : Nat, a0_1 = (x : Int) := ⟨a0_1.toNat, by omega⟩
  obtain ⟨f2, rfl⟩ : ∃ x : Nat, a0_2 = (x : Int) := ⟨a0_2.toNat, by omega⟩
  obtain ⟨f3, rfl⟩ : ∃ x : Nat, a0_3 = (x : Int) := ⟨a0_3.toNat, by omega⟩
  simp only [Int.toNat_natCast] at hres
  have B1 : f1 < 18446744073709551616 := by omega
  have B2 : f2 < 18446744073709551616 := by omega
  have B3 : f3 < 18446744073709551616 := by omega
  clear h b1 b2 b3 b4 b5 b6
  unfold tailGo at hres
  have hb0 := below_alloc (Below.refl w.heap.size w) (.cells #[.int .i64 a0_0, .int .u64 (f1 : Int), .int .u64 (f2 : Int), .int .u64 (f3 : Int), .string a0_4, .bool a0_5] 25)
  have hx0 := heap_alloc_new w (.cells #[.int .i64 a0_0, .int .u64 (f1 : Int), .int .u64 (f2 : Int), .int .u64 (f3 : Int), .string a0_4, .bool a0_5] 25)
  have hcc4 := blk_cell hx0 4
  by_cases hbig : 65535 < a0_4.size
  · rw [if_pos hbig] at hres
    obtain ⟨rfl, rfl⟩ : (⟨#[]⟩ : ByteArray) = r1 ∧ 5 = r2 := by simpa using hres
    have hd : decide (65535 < a0_4.size) = true := decide_eq_true hbig
    go_enter Try.func10, Try.ntmps10
    go_wp2
    first | go_ret2 | go_ret
    exact ⟨rfl, hb0⟩
  rw [if_neg hbig] at hres
  have hd : decide (65535 < a0_4.size) = false := decide_eq_false hbig
  have HB0 := Aside0.mk hb0
  have HX0 := Aside0.mk hx0
  clear hb0 hx0 hcc4
  have S2 := Aside0.mk (fun n : Nat => (show (strN (ofN 2 n)).size = 2 from ofN_length 2 n))
  have S4 := Aside0.mk (fun n : Nat => (show (strN (ofN 4 n)).size = 4 from ofN_length 4 n))
  have S8 := Aside0.mk (fun n : Nat => (show (strN (ofN 8 n)).size = 8 from ofN_length 8 n))
  have M5 := Aside0.mk (show (⟨#[80, 75, 5, 6]⟩ : ByteArray).size = 4 from rfl)
  have M6 := Aside0.mk (show (⟨#[80, 75, 6, 6]⟩ : ByteArray).size = 4 from rfl)
  have M7 := Aside0.mk (show (⟨#[80, 75, 6, 7]⟩ : ByteArray).size = 4 from rfl)
  have E44 := Aside0.mk (show cursor_Eight.f 65 44 = _ from eight_eq 44 (by decide) 65 (by decide))
  have E1 := Aside0.mk (eight_eq f1 (by omega) 65 (by decide))
  have E2 := Aside0.mk (eight_eq f2 (by omega) 65 (by decide))
  have E3 := Aside0.mk (eight_eq f3 (by omega) 65 (by decide))
  have ES := Aside0.mk (eight_eq ((f3 + f2) % 18446744073709551616) (by omega) 65 (by decide))
  have T45 := Aside0.mk (show cursor_Two.f 65 45 = _ from two_eq 45 (by decide) 65 (by decide))
  have T0 := Aside0.mk (show cursor_Two.f 65 0 = _ from two_eq 0 (by decide) 65 (by decide))
  have TM := Aside0.mk (show cursor_Two.f 65 65535 = _ from two_eq 65535 (by decide) 65 (by decide))
  have TL := Aside0.mk (two_eq a0_4.size (by omega) 65 (by decide))
  have F0 := Aside0.mk (show cursor_Four.f 65 0 = _ from four_eq 0 (by decide) 65 (by decide))
  have F1 := Aside0.mk (show cursor_Four.f 65 1 = _ from four_eq 1 (by decide) 65 (by decide))
  have FM := Aside0.mk (show cursor_Four.f 65 4294967295 = _ from four_eq 4294967295 (by decide) 65 (by decide))
  have HRES := Aside0.mk hres
  clear hres
  have hsum : IntKind.u64.wrap ((f3 : Int) + (f2 : Int)) = (((f3 + f2) % 18446744073709551616 : Nat) : Int) := by rw [u64_mod]; omega
  have hcl : IntKind.u16.wrap (a0_4.size : Int) = (a0_4.size : Int) := by rw [u16_mod]; omega
  have hS2 := S2.out
  have hS4 := S4.out
  have hS8 := S8.out
  have hq := eq_true (show 2 + a0_4.size ≤ 9223372036854775807 by omega)
  have hq2 := eq_true (show a0_4.size ≤ 9223372036854775805 by omega)
  have hq3 : (9223372036854775807 < 2 + a0_4.size) = False := eq_false (by omega)
  have hq4 : (9223372036854775805 < a0_4.size) = False := eq_false (by omega)
  cases a0_5 with
  | true =>
    go_enter Try.func10, Try.ntmps10
    go_upto_region 6 with (fail)
    have H := Aside0.mk (blk_alloc (heap_alloc_new w (.cells #[.int .i64 a0_0, .int .u64 (f1 : Int), .int .u64 (f2 : Int), .int .u64 (f3 : Int), .string a0_4, .bool true] 25)) (.cells #[.pointer none, .slice none 0 0] 61))
    have HI := Aside0.mk (has_fresh (w.alloc (.cells #[.int .i64 a0_0, .int .u64 (f1 : Int), .int .u64 (f2 : Int), .int .u64 (f3 : Int), .string a0_4, .bool true] 25)))
    have HB := Aside0.mk (below_alloc (below_alloc (Below.refl w.heap.size w) (.cells #[.int .i64 a0_0, .int .u64 (f1 : Int), .int .u64 (f2 : Int), .int .u64 (f3 : Int), .string a0_4, .bool true] 25)) (.cells #[.pointer none, .slice none 0 0] 61))
    have hgs : (w.alloc (.cells #[.int .i64 a0_0, .int .u64 (f1 : Int), .int .u64 (f2 : Int), .int .u64 (f3 : Int), .string a0_4, .bool true] 25)).heap.size = w.heap.size + 1 := by simp
    rw [hgs] at HI
    generalize hW : (w.alloc (.cells #[.int .i64 a0_0, .int .u64 (f1 : Int), .int .u64 (f2 : Int), .int .u64 (f3 : Int), .string a0_4, .bool true] 25)).alloc (.cells #[.pointer none, .slice none 0 0] 61) = W0 at H HI HB ⊢
    obtain ⟨gS, hgS⟩ : ∃ g, w.heap.size + 1 = g := ⟨_, rfl⟩
    obtain ⟨gX, hgX⟩ : ∃ g, w.heap.size = g := ⟨_, rfl⟩
    have HG := Aside0.mk (show gX = w.heap.size ∧ gS = w.heap.size + 1 ∧ gX ≠ gS ∧ w.heap.size ≤ gS by omega)
    rw [hgS] at HI ⊢
    rw [hgX] at H ⊢
    clear hgs hW hgS hgX
    have hc0 := blk_cell H.out 0
    have hc1 := blk_cell H.out 1
    have hc2 := blk_cell H.out 2
    have hc3 := blk_cell H.out 3
    have hc4 := blk_cell H.out 4
    have hc5 := blk_cell H.out 5
    go_quiet (fail)
    go_upto_region 10 with (first
          | (go_at_call 26; refine (cursor_Eight.calls 65 _ _ _ E44.out).mono ?_; rintro e w1 ⟨rfl, hb⟩; have H := Aside0.mk (blk_below (by exact H.out) hb); have HI := Aside0.mk (has_below (by exact HI.out) hb); have HB := Aside0.mk (below_step (by first | exact HB.out | exact HB.out.drew | exact pw_below_drewN HB.out _) hb); clear hb)
          | (go_at_call 27; refine (cursor_Two.calls 65 _ _ _ T45.out).mono ?_; rintro e w1 ⟨rfl, hb⟩; have H := Aside0.mk (blk_below (by exact H.out) hb); have HI := Aside0.mk (has_below (by exact HI.out) hb); have HB := Aside0.mk (below_step (by first | exact HB.out | exact HB.out.drew | exact pw_below_drewN HB.out _) hb); clear hb)
          | (go_at_call 28; refine (cursor_Four.calls 65 _ _ _ F0.out).mono ?_; rintro e w1 ⟨rfl, hb⟩; have H := Aside0.mk (blk_below (by exact H.out) hb); have HI := Aside0.mk (has_below (by exact HI.out) hb); have HB := Aside0.mk (below_step (by first | exact HB.out | exact HB.out.drew | exact pw_below_drewN HB.out _) hb); clear hb)
          | (go_at_call 25; refine (writeK_calls gS gS _ _ _ HI.out (by (try simp [S2.out, S4.out, S8.out, M5.out, M6.out, M7.out]) <;> omega) (by exact Nat.le_of_lt (has_lt HI.out).2)).mono ?_; rintro e w1 ⟨rfl, hat, hb, ho⟩; have H := Aside0.mk (oth_blk ho (by exact H.out) (by have := HG.out; omega) (by decide)); have HI := Aside0.mk hat; have HB := Aside0.mk ((by first | exact HB.out | exact HB.out.drew | exact pw_below_drewN HB.out _ : Below w.heap.size w _).trans (hb.mono (by have := HG.out; omega))); clear hat hb ho))
    go_region_held3 (fun W' => W'.heap[gX]? = some (.cells #[.int .i64 a0_0, .int .u64 (f1 : Int), .int .u64 (f2 : Int), .int .u64 (f3 : Int), .string a0_4, .bool true] 25 (0, 0)) ∧ W'.cell? ⟨gX, 0, none⟩ = some (.int .i64 a0_0) ∧ W'.cell? ⟨gX, 1, none⟩ = some (.int .u64 (f1 : Int)) ∧ W'.cell? ⟨gX, 2, none⟩ = some (.int .u64 (f2 : Int)) ∧ W'.cell? ⟨gX, 3, none⟩ = some (.int .u64 (f3 : Int)) ∧ W'.cell? ⟨gX, 4, none⟩ = some (.string a0_4) ∧ W'.cell? ⟨gX, 5, none⟩ = some (.bool true))
        (exact ⟨H.out, blk_cell H.out 0, blk_cell H.out 1, blk_cell H.out 2, blk_cell H.out 3, blk_cell H.out 4, blk_cell H.out 5⟩)
        (first
          | (go_at_call 26; refine (cursor_Eight.calls 65 _ _ _ E1.out).mono ?_; rintro e w1 ⟨rfl, hb⟩; have H := Aside0.mk (blk_below (by exact H.out) hb); have HI := Aside0.mk (has_below (by exact HI.out) hb); have HB := Aside0.mk (below_step (by first | exact HB.out | exact HB.out.drew | exact pw_below_drewN HB.out _) hb); clear hb)
          | (go_at_call 26; refine (cursor_Eight.calls 65 _ _ _ E2.out).mono ?_; rintro e w1 ⟨rfl, hb⟩; have H := Aside0.mk (blk_below (by exact H.out) hb); have HI := Aside0.mk (has_below (by exact HI.out) hb); have HB := Aside0.mk (below_step (by first | exact HB.out | exact HB.out.drew | exact pw_below_drewN HB.out _) hb); clear hb)
          | (go_at_call 26; refine (cursor_Eight.calls 65 _ _ _ E3.out).mono ?_; rintro e w1 ⟨rfl, hb⟩; have H := Aside0.mk (blk_below (by exact H.out) hb); have HI := Aside0.mk (has_below (by exact HI.out) hb); have HB := Aside0.mk (below_step (by first | exact HB.out | exact HB.out.drew | exact pw_below_drewN HB.out _) hb); clear hb)
          | (go_at_call 25; refine (writeK_calls gS gS _ _ _ HI.out (by (try simp [S2.out, S4.out, S8.out, M5.out, M6.out, M7.out]) <;> omega) (by exact Nat.le_of_lt (has_lt HI.out).2)).mono ?_; rintro e w1 ⟨rfl, hat, hb, ho⟩; have H := Aside0.mk (oth_blk ho (by exact H.out) (by have := HG.out; omega) (by decide)); have HI := Aside0.mk hat; have HB := Aside0.mk ((by first | exact HB.out | exact HB.out.drew | exact pw_below_drewN HB.out _ : Below w.heap.size w _).trans (hb.mono (by have := HG.out; omega))); clear hat hb ho))
    go_upto_region 11 with (fail)
    go_region_held3 (fun W' => W'.heap[gX]? = some (.cells #[.int .i64 a0_0, .int .u64 (f1 : Int), .int .u64 (f2 : Int), .int .u64 (f3 : Int), .string a0_4, .bool true] 25 (0, 0)) ∧ W'.cell? ⟨gX, 0, none⟩ = some (.int .i64 a0_0) ∧ W'.cell? ⟨gX, 1, none⟩ = some (.int .u64 (f1 : Int)) ∧ W'.cell? ⟨gX, 2, none⟩ = some (.int .u64 (f2 : Int)) ∧ W'.cell? ⟨gX, 3, none⟩ = some (.int .u64 (f3 : Int)) ∧ W'.cell? ⟨gX, 4, none⟩ = some (.string a0_4) ∧ W'.cell? ⟨gX, 5, none⟩ = some (.bool true))
        (exact ⟨H.out, blk_cell H.out 0, blk_cell H.out 1, blk_cell H.out 2, blk_cell H.out 3, blk_cell H.out 4, blk_cell H.out 5⟩)
        (first
          | (go_at_call 28; refine (cursor_Four.calls 65 _ _ _ F0.out).mono ?_; rintro e w1 ⟨rfl, hb⟩; have H := Aside0.mk (blk_below (by exact H.out) hb); have HI := Aside0.mk (has_below (by exact HI.out) hb); have HB := Aside0.mk (below_step (by first | exact HB.out | exact HB.out.drew | exact pw_below_drewN HB.out _) hb); clear hb)
          | (go_at_call 26; refine (cursor_Eight.calls 65 _ _ _ ES.out).mono ?_; rintro e w1 ⟨rfl, hb⟩; have H := Aside0.mk (blk_below (by exact H.out) hb); have HI := Aside0.mk (has_below (by exact HI.out) hb); have HB := Aside0.mk (below_step (by first | exact HB.out | exact HB.out.drew | exact pw_below_drewN HB.out _) hb); clear hb)
          | (go_at_call 28; refine (cursor_Four.calls 65 _ _ _ F1.out).mono ?_; rintro e w1 ⟨rfl, hb⟩; have H := Aside0.mk (blk_below (by exact H.out) hb); have HI := Aside0.mk (has_below (by exact HI.out) hb); have HB := Aside0.mk (below_step (by first | exact HB.out | exact HB.out.drew | exact pw_below_drewN HB.out _) hb); clear hb)
          | (go_at_call 25; refine (writeK_calls gS gS _ _ _ HI.out (by (try simp [S2.out, S4.out, S8.out, M5.out, M6.out, M7.out]) <;> omega) (by exact Nat.le_of_lt (has_lt HI.out).2)).mono ?_; rintro e w1 ⟨rfl, hat, hb, ho⟩; have H := Aside0.mk (oth_blk ho (by exact H.out) (by have := HG.out; omega) (by decide)); have HI := Aside0.mk hat; have HB := Aside0.mk ((by first | exact HB.out | exact HB.out.drew | exact pw_below_drewN HB.out _ : Below w.heap.size w _).trans (hb.mono (by have := HG.out; omega))); clear hat hb ho))
    go_upto_region 13 with (first
          | (go_at_call 27; refine (cursor_Two.calls 65 _ _ _ T0.out).mono ?_; rintro e w1 ⟨rfl, hb⟩; have H := Aside0.mk (blk_below (by exact H.out) hb); have HI := Aside0.mk (has_below (by exact HI.out) hb); have HB := Aside0.mk (below_step (by first | exact HB.out | exact HB.out.drew | exact pw_below_drewN HB.out _) hb); clear hb)
          | (go_at_call 27; refine (cursor_Two.calls 65 _ _ _ TM.out).mono ?_; rintro e w1 ⟨rfl, hb⟩; have H := Aside0.mk (blk_below (by exact H.out) hb); have HI := Aside0.mk (has_below (by exact HI.out) hb); have HB := Aside0.mk (below_step (by first | exact HB.out | exact HB.out.drew | exact pw_below_drewN HB.out _) hb); clear hb)
          | (go_at_call 28; refine (cursor_Four.calls 65 _ _ _ FM.out).mono ?_; rintro e w1 ⟨rfl, hb⟩; have H := Aside0.mk (blk_below (by exact H.out) hb); have HI := Aside0.mk (has_below (by exact HI.out) hb); have HB := Aside0.mk (below_step (by first | exact HB.out | exact HB.out.drew | exact pw_below_drewN HB.out _) hb); clear hb)
          | (go_at_call 25; refine (writeK_calls gS gS _ _ _ HI.out (by (try simp [S2.out, S4.out, S8.out, M5.out, M6.out, M7.out]) <;> omega) (by exact Nat.le_of_lt (has_lt HI.out).2)).mono ?_; rintro e w1 ⟨rfl, hat, hb, ho⟩; have H := Aside0.mk (oth_blk ho (by exact H.out) (by have := HG.out; omega) (by decide)); have HI := Aside0.mk hat; have HB := Aside0.mk ((by first | exact HB.out | exact HB.out.drew | exact pw_below_drewN HB.out _ : Below w.heap.size w _).trans (hb.mono (by have := HG.out; omega))); clear hat hb ho))
    go_region_held3 (fun W' => W'.heap[gX]? = some (.cells #[.int .i64 a0_0, .int .u64 (f1 : Int), .int .u64 (f2 : Int), .int .u64 (f3 : Int), .string a0_4, .bool true] 25 (0, 0)) ∧ W'.cell? ⟨gX, 0, none⟩ = some (.int .i64 a0_0) ∧ W'.cell? ⟨gX, 1, none⟩ = some (.int .u64 (f1 : Int)) ∧ W'.cell? ⟨gX, 2, none⟩ = some (.int .u64 (f2 : Int)) ∧ W'.cell? ⟨gX, 3, none⟩ = some (.int .u64 (f3 : Int)) ∧ W'.cell? ⟨gX, 4, none⟩ = some (.string a0_4) ∧ W'.cell? ⟨gX, 5, none⟩ = some (.bool true))
        (exact ⟨H.out, blk_cell H.out 0, blk_cell H.out 1, blk_cell H.out 2, blk_cell H.out 3, blk_cell H.out 4, blk_cell H.out 5⟩)
        (first
          | (go_at_call 27; refine (cursor_Two.calls 65 _ _ _ TL.out).mono ?_; rintro e w1 ⟨rfl, hb⟩; have H := Aside0.mk (blk_below (by exact H.out) hb); have HI := Aside0.mk (has_below (by exact HI.out) hb); have HB := Aside0.mk (below_step (by first | exact HB.out | exact HB.out.drew | exact pw_below_drewN HB.out _) hb); clear hb)
          | (go_at_call 25; refine (writeK_calls gS gS _ _ _ HI.out (by (try simp [S2.out, S4.out, S8.out, M5.out, M6.out, M7.out]) <;> omega) (by exact Nat.le_of_lt (has_lt HI.out).2)).mono ?_; rintro e w1 ⟨rfl, hat, hb, ho⟩; have H := Aside0.mk (oth_blk ho (by exact H.out) (by have := HG.out; omega) (by decide)); have HI := Aside0.mk hat; have HB := Aside0.mk ((by first | exact HB.out | exact HB.out.drew | exact pw_below_drewN HB.out _ : Below w.heap.size w _).trans (hb.mono (by have := HG.out; omega))); clear hat hb ho))
    go_wp2_with (go_at_call 29; refine (stringK_calls gS gS _ _ HI.out (by exact Nat.le_of_lt (has_lt HI.out).2)).mono ?_; rintro e w1 ⟨rfl, hat, hb, ho⟩; have HB := Aside0.mk (HB.out.trans (hb.mono (by have := HG.out; omega))); clear hat hb ho)
    have hr := HRES.out
    simp only [if_true] at hr
    obtain ⟨he1, he2⟩ := Prod.mk.inj hr
    first | go_ret2 | go_ret
    refine ⟨?_, HB.out⟩
    rw [← he1, ← he2]
    simp [strN, endB, wideB]

  | false =>
    have hr0 := HRES.out
    simp only [Bool.false_eq_true, if_false] at hr0
    clear HRES
    by_cases hn : 65535 ≤ f1
    · rw [if_pos hn] at hr0
      obtain ⟨rfl, rfl⟩ : (⟨#[]⟩ : ByteArray) = r1 ∧ 8 = r2 := by simpa using hr0
      have hdn : decide ((65535 : Int) ≤ (f1 : Int)) = true := decide_eq_true (by omega)
      clear hr0 hn B1 B2 B3 hsum hcl hS2 hS4 hS8 hq hq2 hq3 hq4
      go_enter Try.func10, Try.ntmps10
      go_wp2
      first | go_ret2 | go_ret
      exact ⟨rfl, HB0.out⟩
    rw [if_neg hn] at hr0
    have hdn : decide ((65535 : Int) ≤ (f1 : Int)) = false := decide_eq_false (by omega)
    by_cases hz : 4294967295 ≤ f2
    · rw [if_pos hz] at hr0
      obtain ⟨rfl, rfl⟩ : (⟨#[]⟩ : ByteArray) = r1 ∧ 8 = r2 := by simpa using hr0
      have hdz : decide ((4294967295 : Int) ≤ (f2 : Int)) = true := decide_eq_true (by omega)
      clear hr0 hz B1 B2 B3 hsum hcl hS2 hS4 hS8 hq hq2 hq3 hq4
      go_enter Try.func10, Try.ntmps10
      go_wp2
      first | go_ret2 | go_ret
      exact ⟨rfl, HB0.out⟩
    rw [if_neg hz] at hr0
    have hdz : decide ((4294967295 : Int) ≤ (f2 : Int)) = false := decide_eq_false (by omega)
    by_cases ho : 4294967295 ≤ f3
    · rw [if_pos ho] at hr0
      obtain ⟨rfl, rfl⟩ : (⟨#[]⟩ : ByteArray) = r1 ∧ 8 = r2 := by simpa using hr0
      have hdo : decide ((4294967295 : Int) ≤ (f3 : Int)) = true := decide_eq_true (by omega)
      clear hr0 ho B1 B2 B3 hsum hcl hS2 hS4 hS8 hq hq2 hq3 hq4
      go_enter Try.func10, Try.ntmps10
      go_wp2
      first | go_ret2 | go_ret
      exact ⟨rfl, HB0.out⟩
    rw [if_neg ho] at hr0
    have hdo : decide ((4294967295 : Int) ≤ (f3 : Int)) = false := decide_eq_false (by omega)
    have HRES := Aside0.mk hr0
    clear hr0
    have hw1 : IntKind.u16.wrap (f1 : Int) = (f1 : Int) := by rw [u16_mod]; omega
    have hw2 : IntKind.u32.wrap (f2 : Int) = (f2 : Int) := by simp [IntKind.wrap, IntKind.bits, IntKind.signed]; omega
    have hw3 : IntKind.u32.wrap (f3 : Int) = (f3 : Int) := by simp [IntKind.wrap, IntKind.bits, IntKind.signed]; omega
    have TN := Aside0.mk (two_eq f1 (by omega) 65 (by decide))
    have FZ := Aside0.mk (four_eq f2 (by omega) 65 (by decide))
    have FO := Aside0.mk (four_eq f3 (by omega) 65 (by decide))
    go_enter Try.func10, Try.ntmps10
    go_upto_region 6 with (fail)
    have H := Aside0.mk (blk_alloc (heap_alloc_new w (.cells #[.int .i64 a0_0, .int .u64 (f1 : Int), .int .u64 (f2 : Int), .int .u64 (f3 : Int), .string a0_4, .bool false] 25)) (.cells #[.pointer none, .slice none 0 0] 61))
    have HI := Aside0.mk (has_fresh (w.alloc (.cells #[.int .i64 a0_0, .int .u64 (f1 : Int), .int .u64 (f2 : Int), .int .u64 (f3 : Int), .string a0_4, .bool false] 25)))
    have HB := Aside0.mk (below_alloc (below_alloc (Below.refl w.heap.size w) (.cells #[.int .i64 a0_0, .int .u64 (f1 : Int), .int .u64 (f2 : Int), .int .u64 (f3 : Int), .string a0_4, .bool false] 25)) (.cells #[.pointer none, .slice none 0 0] 61))
    have hgs : (w.alloc (.cells #[.int .i64 a0_0, .int .u64 (f1 : Int), .int .u64 (f2 : Int), .int .u64 (f3 : Int), .string a0_4, .bool false] 25)).heap.size = w.heap.size + 1 := by simp
    rw [hgs] at HI
    generalize hW : (w.alloc (.cells #[.int .i64 a0_0, .int .u64 (f1 : Int), .int .u64 (f2 : Int), .int .u64 (f3 : Int), .string a0_4, .bool false] 25)).alloc (.cells #[.pointer none, .slice none 0 0] 61) = W0 at H HI HB ⊢
    obtain ⟨gS, hgS⟩ : ∃ g, w.heap.size + 1 = g := ⟨_, rfl⟩
    obtain ⟨gX, hgX⟩ : ∃ g, w.heap.size = g := ⟨_, rfl⟩
    have HG := Aside0.mk (show gX = w.heap.size ∧ gS = w.heap.size + 1 ∧ gX ≠ gS ∧ w.heap.size ≤ gS by omega)
    rw [hgS] at HI ⊢
    rw [hgX] at H ⊢
    clear hgs hW hgS hgX
    have hc0 := blk_cell H.out 0
    have hc1 := blk_cell H.out 1
    have hc2 := blk_cell H.out 2
    have hc3 := blk_cell H.out 3
    have hc4 := blk_cell H.out 4
    have hc5 := blk_cell H.out 5
    go_quiet (fail)
    go_upto_region 13 with (first
          | (go_at_call 27; refine (cursor_Two.calls 65 _ _ _ T0.out).mono ?_; rintro e w1 ⟨rfl, hb⟩; have H := Aside0.mk (blk_below (by exact H.out) hb); have HI := Aside0.mk (has_below (by exact HI.out) hb); have HB := Aside0.mk (below_step (by first | exact HB.out | exact HB.out.drew | exact pw_below_drewN HB.out _) hb); clear hb)
          | (go_at_call 27; refine (cursor_Two.calls 65 _ _ _ TN.out).mono ?_; rintro e w1 ⟨rfl, hb⟩; have H := Aside0.mk (blk_below (by exact H.out) hb); have HI := Aside0.mk (has_below (by exact HI.out) hb); have HB := Aside0.mk (below_step (by first | exact HB.out | exact HB.out.drew | exact pw_below_drewN HB.out _) hb); clear hb)
          | (go_at_call 28; refine (cursor_Four.calls 65 _ _ _ FZ.out).mono ?_; rintro e w1 ⟨rfl, hb⟩; have H := Aside0.mk (blk_below (by exact H.out) hb); have HI := Aside0.mk (has_below (by exact HI.out) hb); have HB := Aside0.mk (below_step (by first | exact HB.out | exact HB.out.drew | exact pw_below_drewN HB.out _) hb); clear hb)
          | (go_at_call 28; refine (cursor_Four.calls 65 _ _ _ FO.out).mono ?_; rintro e w1 ⟨rfl, hb⟩; have H := Aside0.mk (blk_below (by exact H.out) hb); have HI := Aside0.mk (has_below (by exact HI.out) hb); have HB := Aside0.mk (below_step (by first | exact HB.out | exact HB.out.drew | exact pw_below_drewN HB.out _) hb); clear hb)
          | (go_at_call 25; refine (writeK_calls gS gS _ _ _ HI.out (by (try simp [S2.out, S4.out, S8.out, M5.out, M6.out, M7.out]) <;> omega) (by exact Nat.le_of_lt (has_lt HI.out).2)).mono ?_; rintro e w1 ⟨rfl, hat, hb, ho⟩; have H := Aside0.mk (oth_blk ho (by exact H.out) (by have := HG.out; omega) (by decide)); have HI := Aside0.mk hat; have HB := Aside0.mk ((by first | exact HB.out | exact HB.out.drew | exact pw_below_drewN HB.out _ : Below w.heap.size w _).trans (hb.mono (by have := HG.out; omega))); clear hat hb ho))
    go_region_held3 (fun W' => W'.heap[gX]? = some (.cells #[.int .i64 a0_0, .int .u64 (f1 : Int), .int .u64 (f2 : Int), .int .u64 (f3 : Int), .string a0_4, .bool false] 25 (0, 0)) ∧ W'.cell? ⟨gX, 0, none⟩ = some (.int .i64 a0_0) ∧ W'.cell? ⟨gX, 1, none⟩ = some (.int .u64 (f1 : Int)) ∧ W'.cell? ⟨gX, 2, none⟩ = some (.int .u64 (f2 : Int)) ∧ W'.cell? ⟨gX, 3, none⟩ = some (.int .u64 (f3 : Int)) ∧ W'.cell? ⟨gX, 4, none⟩ = some (.string a0_4) ∧ W'.cell? ⟨gX, 5, none⟩ = some (.bool false))
        (exact ⟨H.out, blk_cell H.out 0, blk_cell H.out 1, blk_cell H.out 2, blk_cell H.out 3, blk_cell H.out 4, blk_cell H.out 5⟩)
        (first
          | (go_at_call 27; refine (cursor_Two.calls 65 _ _ _ TL.out).mono ?_; rintro e w1 ⟨rfl, hb⟩; have H := Aside0.mk (blk_below (by exact H.out) hb); have HI := Aside0.mk (has_below (by exact HI.out) hb); have HB := Aside0.mk (below_step (by first | exact HB.out | exact HB.out.drew | exact pw_below_drewN HB.out _) hb); clear hb)
          | (go_at_call 25; refine (writeK_calls gS gS _ _ _ HI.out (by (try simp [S2.out, S4.out, S8.out, M5.out, M6.out, M7.out]) <;> omega) (by exact Nat.le_of_lt (has_lt HI.out).2)).mono ?_; rintro e w1 ⟨rfl, hat, hb, ho⟩; have H := Aside0.mk (oth_blk ho (by exact H.out) (by have := HG.out; omega) (by decide)); have HI := Aside0.mk hat; have HB := Aside0.mk ((by first | exact HB.out | exact HB.out.drew | exact pw_below_drewN HB.out _ : Below w.heap.size w _).trans (hb.mono (by have := HG.out; omega))); clear hat hb ho))
    go_wp2_with (go_at_call 29; refine (stringK_calls gS gS _ _ HI.out (by exact Nat.le_of_lt (has_lt HI.out).2)).mono ?_; rintro e w1 ⟨rfl, hat, hb, ho⟩; have HB := Aside0.mk (HB.out.trans (hb.mono (by have := HG.out; omega))); clear hat hb ho)
    have hr := HRES.out
    obtain ⟨he1, he2⟩ := Prod.mk.inj hr
    first | go_ret2 | go_ret
    refine ⟨?_, HB.out⟩
    rw [← he1, ← he2]
    simp [strN, endB, wideB]
end Go.Proofs.Ytdooampgkiodjaa.P
