/- The keys of a code's map: word{length, number}. -/
import Derived.Test.YtlfcepdaicngjaaMapV
import Derived.Test.YtlfcepdaicngjaaProg
import Derived.DeepKeys4
namespace Go.Proofs.Ytlfcepdaicngjaa.Pk
set_option linter.unusedVariables false
set_option linter.unusedSimpArgs false
open Go Go.RowKit Go.Proofs.Ytlfcepdaicngjaa.MapV Go.Proofs.YtlfcepdaicngjaaW.PrintWords Go.Proofs.YtlfcepdaicngjaaW.PrintLast Go.Proofs.YtlfcepdaicngjaaW.PrintMore
abbrev Wd := UInt8 × UInt32
def encW (t : Wd) : Value := .agg #[.int .u8 (t.1.toNat : Int), .int .u32 (t.2.toNat : Int)]
theorem encW_inj : ∀ a c : Wd, encW a = encW c → a = c := by
  intro a c h
  unfold encW at h
  injection h with h
  injection h with h
  simp only [List.cons.injEq, Value.int.injEq, true_and, Int.natCast_inj, and_true] at h
  obtain ⟨h1, h2⟩ := h
  exact Prod.ext (UInt8.toNat_inj.1 h1) (UInt32.toNat_inj.1 h2)
theorem laidOut : laidOutB Try.prog = true := by kernel_rfl
theorem rowW : (68 : TypeId) < Try.prog.types.size := of_decide_eq_true (by kernel_rfl)
theorem wideW : (match Try.prog.underlying 68 with | some (.array _ _) | some (.struct _) => true | _ => false) = true := by rw [Try.underlying68]
theorem keyedW : Go.Maps.Keyed Try.prog 68 := Go.Maps.Keyed.of_law (deep_law_laid laidOut (m := 2) (by omega) rowW (by kernel_rfl) wideW)
theorem cellsW : Try.prog.cellsOf 68 = 2 := by kernel_rfl
theorem cells5 : Try.prog.cellsOf 5 = 1 := by kernel_rfl
theorem cells60 : Try.prog.cellsOf 60 = 1 := by kernel_rfl
theorem keyTW : Try.prog.keyType 68 = true := by kernel_rfl
theorem zeroI (u : World) : (zeroValue 3).run Try.prog u = .ok (.int .i64 0) u := by kernel_rfl
theorem wf_b8 (a : UInt8) : (Lit.int .u8 (a.toNat : Int)).wf = true := by
  have := a.toNat_lt
  simp [Lit.wf, IntKind.min, IntKind.max, IntKind.signed, IntKind.bits]
  omega
theorem wf_b32 (a : UInt32) : (Lit.int .u32 (a.toNat : Int)).wf = true := by
  have := a.toNat_lt
  simp [Lit.wf, IntKind.min, IntKind.max, IntKind.signed, IntKind.bits]
  omega
theorem key_okW : ∀ t : Wd, ∃ l, keyOf Try.prog 68 (encW t) = some l := by
  intro t
  obtain ⟨d, hd⟩ : ∃ d, Try.prog.types.size + 1 = d + 2 := ⟨Try.prog.types.size - 1, by have h : (0 : Nat) < Try.prog.types.size := Nat.lt_of_le_of_lt (Nat.zero_le _) rowW; omega⟩
  suffices h : ∃ ls, Try.prog.keyLits (Try.prog.types.size + 1) 68 (encW t).cells.toList = some ls by
    obtain ⟨ls, h⟩ := h
    unfold keyOf
    rw [Try.underlying68]
    simp only [keyTW, Bool.true_and]
    rw [if_pos (by simp [Value.formed, encW, Try.underlying68, cellsW]), h]
    exact ⟨_, rfl⟩
  rw [hd]
  unfold encW
  simp [Program.keyLits, Try.underlying68, cellsW, cells5, cells60, Try.underlying5, Try.underlying60, Value.cells, List.range, List.range.loop, wf_b8, wf_b32]
/-- The key of a length and a number. -/
def wd (x v : Int) : Wd := (UInt8.ofNat x.toNat, UInt32.ofNat v.toNat)
theorem enc_wd (x v : Int) (h0 : 0 ≤ x) (h1 : x < 256) (h2 : 0 ≤ v) (h3 : v < 4294967296) : encW (wd x v) = .agg #[.int .u8 x, .int .u32 v] := by
  unfold encW wd
  have e1 : ((UInt8.ofNat x.toNat).toNat : Int) = x := by rw [UInt8.toNat_ofNat']; omega
  have e2 : ((UInt32.ofNat v.toNat).toNat : Int) = v := by rw [UInt32.toNat_ofNat']; omega
  rw [e1, e2]
end Go.Proofs.Ytlfcepdaicngjaa.Pk
