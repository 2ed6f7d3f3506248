/- Written by a program of this session (wip/print2: a patched copy of a printer), not by print.sh: Lean functions with the answers of the Go functions, and the proofs of that; no condition beside those that stand in each theorem. -/
import Derived.Test.YtlfcepdaicngjaaPx0
import Derived.Test.YtlfcepdaicngjaaPx2
namespace Go.Proofs.Ytlfcepdaicngjaa.P
open Go.RowKit Go.Proofs.YtlfcepdaicngjaaW.PrintWords Go.Proofs.YtlfcepdaicngjaaW.PrintLast Go.Proofs.YtlfcepdaicngjaaW.PrintMore
attribute [local go_sem] max2_int min2_int max_two min_two max_three min_three max_four min_four   -- for this text's walks alone
set_option linter.unusedVariables false
set_option linter.unusedSimpArgs false

/-! ### bits_Reader_bits: function 36 -/
def bits_Reader_bits.l0 : Nat → Int → Int → Int → Int → ByteArray → Int → Int → Option (Int × ByteArray × Int × Int)
  | 0, _, _, _, _, _, _, _ => none
  | k + 1, x1, x5, x6, x7, x1000, x1001, x1002 => if (wrap64 (x7 * 8)) < (wrap64 (x1 + (Go.bits .and .i64 x1001 7))) then (if 0 ≤ (wrap64 (x6 + x7)) then (if (wrap64 (x6 + x7)) < (x1000.size : Int) then (if 0 ≤ (wrap64 (8 * x7)) then (bits_Reader_bits.l0 k x1 (Go.bits .or .u64 x5 (shl .u64 (IntKind.u64.wrap (bt x1000 (wrap64 (x6 + x7)))) (wrap64 (8 * x7)))) x6 (wrap64 (x7 + 1)) x1000 x1001 x1002) else (none)) else (none)) else (none)) else (if 0 ≤ (Go.bits .and .i64 x1001 7) then (if 0 ≤ x1 then (some ((Go.bits .and .u64 (shr .u64 x5 (Go.bits .and .i64 x1001 7)) (IntKind.u64.wrap ((shl .u64 1 x1) - 1))) % 4294967296, x1000, x1001, x1002)) else (none)) else (none))
def bits_Reader_bits.f (k : Nat) (s0_0 : ByteArray) (s0_1 : Int) (s0_2 : Int) (a1 : Int) : Option (Int × ByteArray × Int × Int) := bits_Reader_bits.l0 k a1 0 (s0_1 / 8) 0 s0_0 s0_1 s0_2
theorem bits_Reader_bits.mono_l : ∀ k, (∀ y0 y1 y2 y3 y4 y5 y6, LeO (bits_Reader_bits.l0 k y0 y1 y2 y3 y4 y5 y6) (bits_Reader_bits.l0 (k + 1) y0 y1 y2 y3 y4 y5 y6))
  | 0 => fun _ _ _ _ _ _ _ r h => by simp [bits_Reader_bits.l0] at h
  | k + 1 => by
    have ih0 := bits_Reader_bits.mono_l k
    · intro y0 y1 y2 y3 y4 y5 y6
      unfold bits_Reader_bits.l0
      repeat' first
      | (with_reducible exact ih0 _ _ _ _ _ _ _)
      | (with_reducible exact LeO.refl _)
      | (with_reducible exact LeO.none _)
      | (with_reducible refine LeO.ite ?_ ?_)
      | (with_reducible refine LeO.bind ?_ (fun _ => ?_))
      | exact ih0 _ _ _ _ _ _ _
      | exact LeO.none _
      | refine LeO.ite ?_ ?_
      | refine LeO.bind ?_ (fun _ => ?_)
theorem bits_Reader_bits.mono : ∀ a0 a1 a2 a3 k, LeO (bits_Reader_bits.f k a0 a1 a2 a3) (bits_Reader_bits.f (k + 1) a0 a1 a2 a3) := by
  intro a0 a1 a2 a3 k
  have ih0 := bits_Reader_bits.mono_l k
  unfold bits_Reader_bits.f
  repeat' first
      | (with_reducible exact ih0 _ _ _ _ _ _ _)
      | (with_reducible exact LeO.refl _)
      | (with_reducible exact LeO.none _)
      | (with_reducible refine LeO.ite ?_ ?_)
      | (with_reducible refine LeO.bind ?_ (fun _ => ?_))
      | exact ih0 _ _ _ _ _ _ _
      | exact LeO.none _
      | refine LeO.ite ?_ ?_
      | refine LeO.bind ?_ (fun _ => ?_)
set_option maxHeartbeats 8000000 in
set_option maxRecDepth 100000 in
theorem bits_Reader_bits.calls (k : Nat) (g : Nat) (s0_0 : ByteArray) (s0_1 : Int) (s0_2 : Int) (a1 : Int) (r1 : Int) (r2 : ByteArray) (r3 : Int) (r4 : Int) (w0 w : World) (hI : IsS70 w0 w g s0_0 s0_1 s0_2) (hB : Below w0.heap.size w0 w) (h : bits_Reader_bits.f k s0_0 s0_1 s0_2 a1 = some (r1, r2, r3, r4)) :
    Calls Try.prog 36 #[.pointer (some ⟨g, 0, none⟩), .int .i64 a1] w fun e w' => e = .returned (.int .u32 r1) ∧ IsS70 w0 w' g r2 r3 r4 ∧ Below w0.heap.size w0 w' ∧ KeepBut w w' g none := by
  have HI0 := Aside0.mk hI
  have HK := Aside0.mk (KeepBut.refl w g none)
  have HL := Aside0.mk hB.size
  clear hI
  have HW0 := Aside0.mk hB.size
  have HB := Aside0.mk hB
  clear hB
  have H : (bits_Reader_bits.l0 k a1 0 (s0_1 / 8) 0 s0_0 s0_1 s0_2) = some (r1, r2, r3, r4) := h
  clear h
  have H' := Aside0.mk H
  clear H
  obtain ⟨HGz3, hgz3⟩ := HI0.out
  have hcz3_0 := cellS70_0 HGz3
  have hcz3_1 := cellS70_1 HGz3
  have hcz3_2 := cellS70_2 HGz3
  have hfz3_0 := blk_frozen HGz3 0
  have hfz3_1 := blk_frozen HGz3 1
  have hfz3_2 := blk_frozen HGz3 2
  clear HGz3 hgz3
  go_enter Try.func36, Try.ntmps36
  go_wp2
  repeat (go_quiet (fail); try go_wp2)
  go_loopg [5, 7] k (fun kq v5 v7 w' => ∃ (x5_1 : Int) (x7_1 : Int), v5 = .int .u64 x5_1 ∧ v7 = .int .i64 x7_1 ∧ Aside0 (bits_Reader_bits.l0 kq a1 x5_1 (s0_1 / 8) x7_1 s0_0 s0_1 s0_2 = some (r1, r2, r3, r4)) ∧ Aside0 (kq ≤ k) ∧ Aside0 (IsS70 w0 w' g s0_0 s0_1 s0_2) ∧ Aside0 (KeepBut w w' g none) ∧ Aside0 (Below w0.heap.size w0 w'))
  case atStart => exact ⟨(0), (0), (by first | rfl | (simp; done) | (simp [*]; done)), (by first | rfl | (simp; done) | (simp [*]; done)), H', ⟨Nat.le_refl _⟩, ⟨by repeat (first | (with_reducible first | exact HI0.out | apply IsS70.alloc | apply IsS70.drewN | apply IsS70.drew | apply IsS70.set_0 | apply IsS70.set_1 | apply IsS70.set_2) | exact HI0.out)⟩, ⟨by repeat (first | (with_reducible first | exact HK.out | apply KeepBut.set_ | apply keep_drewN | apply keep_drew | apply keep_alloc) | exact HK.out)⟩, ⟨by repeat (first | (with_reducible first | exact HB.out | apply below_alloc | apply pw_below_drewN | apply below_drew1 | refine below_set ?_ (IsS70.ge HI0.out)) | exact HB.out)⟩⟩
  case round =>
    clear H'
    try clear p2
    try clear c3
    try clear hcz3_0
    try clear hcz3_1
    try clear hcz3_2
    try clear hfz3_0
    try clear hfz3_1
    try clear hfz3_2
    obtain ⟨x5_1, x7_1, rfl, rfl, HA, HK1, HI0, HK, HB⟩ := hrel
    cases gk with
    | zero => exact absurd HA.out (by simp [bits_Reader_bits.l0])
    | succ k1 =>
      have H := HA.out
      clear HA
      simp only [bits_Reader_bits.l0] at H
      by_cases c4 : (wrap64 (x7_1 * 8)) < (wrap64 (a1 + (Go.bits .and .i64 s0_1 7)))
      · rw [if_pos c4] at H
        have c4b0 : decide ((wrap64 (x7_1 * 8)) < (wrap64 (a1 + (Go.bits .and .i64 s0_1 7)))) = true := decide_eq_true c4
        clear c4
        obtain ⟨ji5, hji5⟩ : ∃ j_ : Int, (wrap64 ((s0_1 / 8) + x7_1)) = j_ := ⟨_, rfl⟩
        replace H : (if 0 ≤ (ji5) then (if (ji5) < (s0_0.size : Int) then (if 0 ≤ (wrap64 (8 * x7_1)) then (bits_Reader_bits.l0 k1 a1 (Go.bits .or .u64 x5_1 (shl .u64 (IntKind.u64.wrap (bt s0_0 (ji5))) (wrap64 (8 * x7_1)))) (s0_1 / 8) (wrap64 (x7_1 + 1)) s0_0 s0_1 s0_2) else (none)) else (none)) else (none)) = some (r1, r2, r3, r4) := by first | (rw [hji5] at H; exact H) | (simp only [hji5] at H ⊢; exact H)
        have hji5w : (IntKind.i64.wrap ((s0_1 / 8) + x7_1)) = ji5 := (i64_w _).trans hji5
        by_cases c6 : 0 ≤ (ji5)
        · rw [if_pos c6] at H
          have c6b0 : decide (0 ≤ (ji5)) = true := decide_eq_true c6
          clear c6
          by_cases c7 : (ji5) < (s0_0.size : Int)
          · rw [if_pos c7] at H
            have c7b0 : decide ((ji5) < (s0_0.size : Int)) = true := decide_eq_true c7
            clear c7
            obtain ⟨ji9, hji9⟩ : ∃ j_ : Int, (wrap64 (8 * x7_1)) = j_ := ⟨_, rfl⟩
            replace H : (if 0 ≤ (ji9) then (bits_Reader_bits.l0 k1 a1 (Go.bits .or .u64 x5_1 (shl .u64 (IntKind.u64.wrap (bt s0_0 (ji5))) (ji9))) (s0_1 / 8) (wrap64 (x7_1 + 1)) s0_0 s0_1 s0_2) else (none)) = some (r1, r2, r3, r4) := by first | (rw [hji9] at H; exact H) | (simp only [hji9] at H ⊢; exact H)
            have hji9w : (IntKind.i64.wrap (8 * x7_1)) = ji9 := (i64_w _).trans hji9
            by_cases c10 : 0 ≤ (ji9)
            · rw [if_pos c10] at H
              have c10b0 := eq_true c10
              have c10b1 : decide (0 ≤ (ji9)) = true := decide_eq_true c10
              clear c10
              obtain ⟨ji11, hji11⟩ : ∃ j_ : Int, (shl .u64 (IntKind.u64.wrap (bt s0_0 (ji5))) (ji9)) = j_ := ⟨_, rfl⟩
              replace H : (bits_Reader_bits.l0 k1 a1 (Go.bits .or .u64 x5_1 (ji11)) (s0_1 / 8) (wrap64 (x7_1 + 1)) s0_0 s0_1 s0_2) = some (r1, r2, r3, r4) := by first | (rw [hji11] at H; exact H) | (simp only [hji11] at H ⊢; exact H)
              have hji11_ : (IntKind.u64.wrap ((IntKind.u64.wrap (bt s0_0 (ji5))) * 2 ^ min (ji9).toNat 64)) = ji11 := hji11
              have hji11z : (ji9) ≤ 64 → (IntKind.u64.wrap ((IntKind.u64.wrap (bt s0_0 (ji5))) * 2 ^ (ji9).toNat)) = ji11 := shl_small hji11
              have H' := Aside0.mk H
              clear H
              obtain ⟨HGz12, hgz12⟩ := HI0.out
              have hcz12_0 := cellS70_0 HGz12
              have hcz12_1 := cellS70_1 HGz12
              have hcz12_2 := cellS70_2 HGz12
              have hfz12_0 := blk_frozen HGz12 0
              have hfz12_1 := blk_frozen HGz12 1
              have hfz12_2 := blk_frozen HGz12 2
              clear HGz12 hgz12
              have p8 : 0 ≤ ((ji5) : Int) := of_decide_eq_true (by first | (with_reducible assumption) | assumption)
              have q8 : (ji5) < (s0_0.size : Int) := of_decide_eq_true (by first | (with_reducible assumption) | assumption)
              have hx8 := bt_at s0_0 (ji5)
              replace p8 := eq_true p8
              replace q8 := eq_true q8
              go_wp2
              repeat (go_quiet (fail); try go_wp2)
              go_roundg k1
              case measure => have := HK1.out; omega
              case rel => exact ⟨(Go.bits .or .u64 x5_1 (ji11)), (wrap64 (x7_1 + 1)), (by first | rfl | (simp; done) | (simp only [← hji11] <;> (first | rfl | simp)) | (simp [*]; done)), (by first | rfl | (simp; done) | (simp [*]; done)), H', ⟨by have := HK1.out; omega⟩, ⟨by repeat (first | (with_reducible first | exact HI0.out | apply IsS70.alloc | apply IsS70.drewN | apply IsS70.drew | apply IsS70.set_0 | apply IsS70.set_1 | apply IsS70.set_2) | exact HI0.out)⟩, ⟨by repeat (first | (with_reducible first | exact HK.out | apply KeepBut.set_ | apply keep_drewN | apply keep_drew | apply keep_alloc) | exact HK.out)⟩, ⟨by repeat (first | (with_reducible first | exact HB.out | apply below_alloc | apply pw_below_drewN | apply below_drew1 | refine below_set ?_ (IsS70.ge HI0.out)) | exact HB.out)⟩⟩
            · rw [if_neg c10] at H
              exact absurd H (by simp)
          · rw [if_neg c7] at H
            exact absurd H (by simp)
        · rw [if_neg c6] at H
          exact absurd H (by simp)
      · rw [if_neg c4] at H
        have c4b0 : decide ((wrap64 (x7_1 * 8)) < (wrap64 (a1 + (Go.bits .and .i64 s0_1 7)))) = false := decide_eq_false c4
        clear c4
        by_cases c13 : 0 ≤ (Go.bits .and .i64 s0_1 7)
        · rw [if_pos c13] at H
          have c13b0 := eq_true c13
          have c13b1 : decide (0 ≤ (Go.bits .and .i64 s0_1 7)) = true := decide_eq_true c13
          clear c13
          obtain ⟨ji14, hji14⟩ : ∃ j_ : Int, (shr .u64 x5_1 (Go.bits .and .i64 s0_1 7)) = j_ := ⟨_, rfl⟩
          replace H : (if 0 ≤ a1 then (some ((Go.bits .and .u64 (ji14) (IntKind.u64.wrap ((shl .u64 1 a1) - 1))) % 4294967296, s0_0, s0_1, s0_2)) else (none)) = some (r1, r2, r3, r4) := by first | (rw [hji14] at H; exact H) | (simp only [hji14] at H ⊢; exact H)
          have hji14_ : (x5_1 / 2 ^ min (Go.bits .and .i64 s0_1 7).toNat 64) = ji14 := hji14
          have hji14z : (Go.bits .and .i64 s0_1 7) ≤ 64 → (x5_1 / 2 ^ (Go.bits .and .i64 s0_1 7).toNat) = ji14 := shr_small hji14
          by_cases c15 : 0 ≤ a1
          · rw [if_pos c15] at H
            have c15b0 := eq_true c15
            have c15b1 : decide (0 ≤ a1) = true := decide_eq_true c15
            clear c15
            obtain ⟨ji16, hji16⟩ : ∃ j_ : Int, (shl .u64 1 a1) = j_ := ⟨_, rfl⟩
            replace H : (some ((Go.bits .and .u64 (ji14) (IntKind.u64.wrap ((ji16) - 1))) % 4294967296, s0_0, s0_1, s0_2)) = some (r1, r2, r3, r4) := by first | (rw [hji16] at H; exact H) | (simp only [hji16] at H ⊢; exact H)
            have hji16_ : (IntKind.u64.wrap (1 * 2 ^ min a1.toNat 64)) = ji16 := hji16
            have hji16z : a1 ≤ 64 → (IntKind.u64.wrap (1 * 2 ^ a1.toNat)) = ji16 := shl_small hji16
            have hji16u : (IntKind.u64.wrap (2 ^ min a1.toNat 64)) = ji16 := by have h_ := hji16_; rw [Int.one_mul] at h_; exact h_
            have hji16v : a1 ≤ 64 → (IntKind.u64.wrap (2 ^ a1.toNat)) = ji16 := fun hle_ => by have h_ := hji16z hle_; rw [Int.one_mul] at h_; exact h_
            simp only [Option.some.injEq, Prod.mk.injEq] at H
            obtain ⟨rfl, rfl, rfl, rfl⟩ := H
            obtain ⟨HGz17, hgz17⟩ := HI0.out
            have hcz17_0 := cellS70_0 HGz17
            have hcz17_1 := cellS70_1 HGz17
            have hcz17_2 := cellS70_2 HGz17
            have hfz17_0 := blk_frozen HGz17 0
            have hfz17_1 := blk_frozen HGz17 1
            have hfz17_2 := blk_frozen HGz17 2
            clear HGz17 hgz17
            go_wp2
            repeat (go_quiet (fail); try go_wp2)
            go_ret
            exact ⟨by first | rfl | (simp [errW_none, errW_some] <;> rfl) | (simp only [← hji14, ← hji16]; first | rfl | (simp [errW_none, errW_some] <;> rfl)) | (simp [*, errW_none, errW_some] <;> rfl), by repeat (first | (with_reducible first | exact HI0.out | apply IsS70.alloc | apply IsS70.drewN | apply IsS70.drew | apply IsS70.set_0 | apply IsS70.set_1 | apply IsS70.set_2) | exact HI0.out), by repeat (first | (with_reducible first | exact HB.out | apply below_alloc | apply pw_below_drewN | apply below_drew1 | refine below_set ?_ (IsS70.ge HI0.out)) | exact HB.out), by repeat (first | (with_reducible first | exact HK.out | apply KeepBut.set_ | apply keep_drewN | apply keep_drew | apply keep_alloc) | exact HK.out)⟩
          · rw [if_neg c15] at H
            exact absurd H (by simp)
        · rw [if_neg c13] at H
          exact absurd H (by simp)

end Go.Proofs.Ytlfcepdaicngjaa.P
