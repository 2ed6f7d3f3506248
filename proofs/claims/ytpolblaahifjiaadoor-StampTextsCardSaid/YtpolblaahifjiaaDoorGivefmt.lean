/- strconv.FormatUint at base 10, laid at this program's own numbers out of the library's contracts. Printed by genfmt.py. -/
import Derived.Test.YtpolblaahifjiaaDoorProg
import Derived.Shelf.Strconv.Itoa1
import Derived.Shelf.Strconv.Itoa2
import Derived.Lib.Walk
import Derived.Lib.ItoaWalk
import Derived.Lib.ItoaMem
import Derived.Lib.AppendIntMem
import Derived.Lib.Hide
import Derived.Lib.SmallJoins
import Derived.Test.YtpolblaahifjiaaDoorWMore
namespace Go.Proofs.YtpolblaahifjiaaDoor.Fmt
set_option linter.unusedVariables false
set_option linter.unusedSimpArgs false
open Go Go.RowKit Go.Shelf Go.Sort Go.Lib Go.Proofs
def hereF : Ren := ⟨fun n => if n = 129 then 49 else if n = 283 then 39 else if n = 284 then 40 else if n = 285 then 41 else if n = 317 then 48 else if n = 318 then 50 else n, fun n => if n = 0 then 0 else if n = 3 then 3 else if n = 4 then 4 else if n = 5 then 5 else if n = 9 then 9 else if n = 37 then 66 else if n = 46 then 56 else if n = 51 then 31 else if n = 53 then 57 else if n = 212 then 88 else n, fun n => if n = 17 then 0 else n⟩
theorem lays283 : Lays.n283 Tryd.prog hereF where
  mixed := by kernel_rfl
  f283 := (show Tryd.prog.funcs[39]? = some (Body.n283 hereF) from Tryd.func39.trans (congrArg some (by kernel_rfl)))
  t3 := Tryd.underlying3
  a3 := Tryd.isAgg3
  z3 := Tryd.sizeOf3
  v3 := Tryd.zeroValue3
  t4 := Tryd.underlying4
  a4 := Tryd.isAgg4
  z4 := Tryd.sizeOf4
  v4 := Tryd.zeroValue4
  t9 := Tryd.underlying9
  a9 := Tryd.isAgg9
  z9 := Tryd.sizeOf9
  v9 := Tryd.zeroValue9
theorem lays284 : Lays.n284 Tryd.prog hereF where
  mixed := by kernel_rfl
  f129 := (show Tryd.prog.funcs[49]? = some (Body.n129 hereF) from Tryd.func49.trans (congrArg some (by kernel_rfl)))
  f284 := (show Tryd.prog.funcs[40]? = some (Body.n284 hereF) from Tryd.func40.trans (congrArg some (by kernel_rfl)))
  f317 := (show Tryd.prog.funcs[48]? = some (Body.n317 hereF) from Tryd.func48.trans (congrArg some (by kernel_rfl)))
  f318 := (show Tryd.prog.funcs[50]? = some (Body.n318 hereF) from Tryd.func50.trans (congrArg some (by kernel_rfl)))
  t0 := Tryd.underlying0
  a0 := Tryd.isAgg0
  z0 := Tryd.sizeOf0
  v0 := Tryd.zeroValue0
  t3 := Tryd.underlying3
  a3 := Tryd.isAgg3
  z3 := Tryd.sizeOf3
  v3 := Tryd.zeroValue3
  t4 := Tryd.underlying4
  a4 := Tryd.isAgg4
  z4 := Tryd.sizeOf4
  v4 := Tryd.zeroValue4
  t5 := Tryd.underlying5
  a5 := Tryd.isAgg5
  z5 := Tryd.sizeOf5
  v5 := Tryd.zeroValue5
  t9 := Tryd.underlying9
  a9 := Tryd.isAgg9
  z9 := Tryd.sizeOf9
  v9 := Tryd.zeroValue9
  t46 := Tryd.underlying56
  a46 := Tryd.isAgg56
  z46 := Tryd.sizeOf56
  v46 := Tryd.zeroValue56
  t53 := Tryd.underlying57
  a53 := Tryd.isAgg57
  z53 := Tryd.sizeOf57
  v53 := Tryd.zeroValue57
  t212 := Tryd.underlying88
  a212 := Tryd.isAgg88
  z212 := Tryd.sizeOf88
  v212 := Tryd.zeroValue88
  g17 := by kernel_rfl
theorem laysM284 : LaysM.n284 Tryd.prog hereF := { lays284 with
  i0 := by kernel_rfl,
  i3 := by kernel_rfl,
  i4 := by kernel_rfl,
  i5 := by kernel_rfl,
  i9 := by kernel_rfl,
  i46 := by kernel_rfl,
  i53 := by kernel_rfl,
  i212 := by kernel_rfl,
  m17 := by kernel_rfl }
theorem lays285 : Lays.n285 Tryd.prog hereF where
  mixed := by kernel_rfl
  f285 := (show Tryd.prog.funcs[41]? = some (Body.n285 hereF) from Tryd.func41.trans (congrArg some (by kernel_rfl)))
  t0 := Tryd.underlying0
  a0 := Tryd.isAgg0
  z0 := Tryd.sizeOf0
  v0 := Tryd.zeroValue0
  t3 := Tryd.underlying3
  a3 := Tryd.isAgg3
  z3 := Tryd.sizeOf3
  v3 := Tryd.zeroValue3
  t4 := Tryd.underlying4
  a4 := Tryd.isAgg4
  z4 := Tryd.sizeOf4
  v4 := Tryd.zeroValue4
  t5 := Tryd.underlying5
  a5 := Tryd.isAgg5
  z5 := Tryd.sizeOf5
  v5 := Tryd.zeroValue5
  t9 := Tryd.underlying9
  a9 := Tryd.isAgg9
  z9 := Tryd.sizeOf9
  v9 := Tryd.zeroValue9
  t37 := Tryd.underlying66
  a37 := Tryd.isAgg66
  z37 := Tryd.sizeOf66
  v37 := Tryd.zeroValue66
  t51 := Tryd.underlying31
  a51 := Tryd.isAgg31
  z51 := Tryd.sizeOf31
  v51 := Tryd.zeroValue31
  t53 := Tryd.underlying57
  a53 := Tryd.isAgg57
  z53 := Tryd.sizeOf57
  v53 := Tryd.zeroValue57
/-- The table of the powers of ten. -/
abbrev Tab (w : World) : Prop := Lib.TabIs Tryd.prog w "internal/strconv.uint64pow10" .u64 Lib.pow10Tab
theorem globalTab : Tryd.prog.globalNamed "internal/strconv.uint64pow10" = some 0 := by kernel_rfl
theorem tab_at {w w' : World} (h : Tab w) (hb : Below w.heap.size w w') : Tab w' := Joins.tab_stays globalTab h hb (Nat.le_refl _)
set_option maxHeartbeats 12800000 in
set_option maxRecDepth 100000 in
theorem inner_small (u : Nat) (hu : u < 100) (w : World) :
    Calls Tryd.prog 32 #[.int .u64 u, .int .i64 10] w fun e w' => e = .returned (.string ⟨(Lib.decDigits u).toArray⟩) ∧ w' = w := by
  have hd : decide ((u : Int) < 100) = true := decide_eq_true (by omega)
  have hsm : ∀ w, Calls Tryd.prog 39 #[.int .i64 u] w fun e w' => e = .returned (.string ⟨(Lib.decDigits u).toArray⟩) ∧ w' = w := fun w => Any.internal_strconv_small lays283 u hu w
  go_enter Tryd.func32, Tryd.ntmps32
  go_wp2_with (go_at_call 39; (with_reducible refine (hsm _).mono ?_); rintro e w' ⟨rfl, rfl⟩)
  go_ret
  exact ⟨rfl, rfl⟩
set_option maxHeartbeats 12800000 in
set_option maxRecDepth 100000 in
theorem inner_big (u : Nat) (hu : 100 ≤ u) (hu64 : u < 18446744073709551616) (w : World) (htab : Tab w) :
    Calls Tryd.prog 32 #[.int .u64 u, .int .i64 10] w fun e w' => e = .returned (.string ⟨(Lib.decDigits u).toArray⟩) ∧ Below w.heap.size w w' := by
  have hu1 : 1 ≤ u := by omega
  have hnd20 : Lib.nDigits u ≤ 20 := by have := Lib.numDigits_eq u hu1 hu64; split at this <;> omega
  have hal : Tryd.prog.arrayLen 77 = 24 := by kernel_rfl
  have hsl : ∀ W, (Instr.sliceAt 77 (.pointer (some ⟨w.heap.size, 0, none⟩)) none (some (.int .i64 (Lib.nDigits u : Int))) none).run Tryd.prog W = .ok (.slice (some ⟨w.heap.size, 0, none⟩) (Lib.nDigits u) 24) W := fun W => by
    rw [run_sliceAt_array_h W 77 ⟨w.heap.size, 0, none⟩ (by simp [Program.arrayLen, Program.elem, Tryd.underlying77]) .i64 (Lib.nDigits u : Int) (by omega) (by rw [hal]; omega)]
    go_simp
  have hH0 := Lib.holds_zero0 w 77 (Lib.nDigits u) (by omega)
  have hfmt : Calls Tryd.prog 41 #[.slice (some ⟨w.heap.size, 0, none⟩) (Array.replicate (Lib.nDigits u) (0 : UInt8)).size 24, .int .u64 u] (w.alloc (.cells Lib.zeros24 77)) fun e w' => _ := Any.internal_strconv_formatBase10 lays285 w.heap.size 0 24 u (Array.replicate (Lib.nDigits u) 0) (w.alloc (.cells Lib.zeros24 77)) hH0 (by rw [Array.size_replicate]; exact Lib.lt_pow_nDigits u) hu64 (by rw [Array.size_replicate]; omega)
  rw [Array.size_replicate] at hfmt
  have HH0 := Lib.hid hH0
  have iu : decide ((u : Int) < 100) = false := decide_eq_false (by omega)
  clear hH0 hal
  go_enter Tryd.func32, Tryd.ntmps32
  go_wp2_with (first
    | (go_at_call 40; refine (Any.internal_strconv_numDigits laysM284 u hu1 hu64 _ (Lib.tabIs_alloc htab _)).mono ?_; rintro e w' ⟨rfl, rfl⟩))
  go_at_call 41
  refine hfmt.mono ?_
  rintro e w' ⟨rfl, k, v', dk, rfl, hF⟩
  have hcv : (convert 66 9 (.slice (some ⟨w.heap.size, 0, none⟩) (Lib.nDigits u) 24)).run Tryd.prog ((putRow (fun (b : UInt8) => Value.int .u8 (b.toNat : Int)) (w.alloc (.cells Lib.zeros24 77)) w.heap.size 0 dk).drewN k) = .ok (.string ⟨(Lib.decDigits u).toArray⟩) ((putRow (fun (b : UInt8) => Value.int .u8 (b.toNat : Int)) (w.alloc (.cells Lib.zeros24 77)) w.heap.size 0 dk).drewN k) := by
    have h := run_convert_bytes_back (P := Tryd.prog) ((putRow (fun (b : UInt8) => Value.int .u8 (b.toNat : Int)) (w.alloc (.cells Lib.zeros24 77)) w.heap.size 0 dk).drewN k) 66 9 5 ⟨w.heap.size, 0, none⟩ 24 (Lib.decDigits u) Tryd.underlying66 Tryd.underlying5 Tryd.underlying9 (fun j hj => by
      rw [Lib.row_is_numeral hF j hj, Lib.add_plain, World.cell?_drewN]
      exact cell?_putRow (fun (b : UInt8) => Value.int .u8 (b.toNat : Int)) _ w.heap.size 0 _ dk HH0.out (by rw [hF.size, Array.size_replicate]) j (by rw [hF.size]; rw [Lib.decDigits_length] at hj; exact hj))
    rw [Lib.decDigits_length] at h
    exact h
  go_wp2
  go_ret
  obtain ⟨os, eo⟩ := Lib.fin_at w (.cells Lib.zeros24 77) dk k 0
  refine ⟨rfl, ?_⟩
  rw [eo]
  exact Lib.below_grow w.heap.size w (Nat.le_refl _) k os
/-- A number's digits. -/
theorem format_calls (u : Nat) (hu64 : u < 18446744073709551616) (w : World) (htab : Tab w) :
    Calls Tryd.prog 29 #[.int .u64 u, .int .i64 10] w fun e w' => e = .returned (.string ⟨(Lib.decDigits u).toArray⟩) ∧ Below w.heap.size w w' := by
  have h : Calls Tryd.prog 32 #[.int .u64 u, .int .i64 10] w fun e w' => e = .returned (.string ⟨(Lib.decDigits u).toArray⟩) ∧ Below w.heap.size w w' := by
    by_cases hs : u < 100
    · exact (inner_small u hs w).mono fun e w' ⟨a, b⟩ => ⟨a, by rw [b]; exact Below.refl _ _⟩
    · exact inner_big u (by omega) hu64 w htab
  go_enter Tryd.func29, Tryd.ntmps29
  go_wp2_with (go_at_call 32; (with_reducible refine h.mono ?_); rintro e w' ⟨rfl, hb⟩)
  go_ret
  exact ⟨rfl, hb⟩
end Go.Proofs.YtpolblaahifjiaaDoor.Fmt
