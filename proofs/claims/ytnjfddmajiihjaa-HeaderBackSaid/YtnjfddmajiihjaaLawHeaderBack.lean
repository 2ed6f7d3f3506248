import Derived.Test.YtnjfddmajiihjaaRows
import Derived.Test.YtnjfddmajiihjaaMg5
import Derived.Test.YtnjfddmajiihjaaMg2
import Derived.Test.YtnjfddmajiihjaaWSized
import Derived.WalkKit
import Derived.ProofKit
import Derived.OpenShut
import Derived.ShutString
import Derived.ChangeOld
import Derived.Below
import Derived.SizedLaws
import Derived.SliceStrings
namespace Go.Proofs.Ytnjfddmajiihjaa.headerBack
open Go Go.ChangeShapes Go.WideShapes Go.ChangeAt Go.RowKit Go.Proofs.Ytnjfddmajiihjaa.P Go.Proofs.YtnjfddmajiihjaaW.PrintWords
open Go.ChangeMaps (open_string shut_string)
set_option linter.unusedVariables false
set_option linter.unusedSimpArgs false
theorem own : ownKnob Try.prog.godebug = none := by kernel_rfl
theorem laidOut : laidOutB Try.prog = true := by kernel_rfl
set_option maxRecDepth 100000 in
theorem op22 : Opens.Opens Try.prog 22 (Kd.int .u16) (fun x_ => (Lit.int .u16 x_).wf = true) := Opens.Opens.int Try.underlying22 (by kernel_rfl)
set_option maxRecDepth 100000 in
theorem op23 : Opens.Opens Try.prog 23 (Kd.int .u32) (fun x_ => (Lit.int .u32 x_).wf = true) := Opens.Opens.int Try.underlying23 (by kernel_rfl)
set_option maxRecDepth 100000 in
theorem op9 : Opens.Opens Try.prog 9 Kd.string (fun x_ => x_.size ≤ maxLen) := Opens.Opens.string Try.underlying9 (by kernel_rfl)
theorem cells25 : Try.prog.cellsOf 25 = 9 := by kernel_rfl
theorem cells22 : Try.prog.cellsOf 22 = 1 := by kernel_rfl
theorem cells23 : Try.prog.cellsOf 23 = 1 := by kernel_rfl
theorem cells9 : Try.prog.cellsOf 9 = 1 := by kernel_rfl
set_option maxRecDepth 100000 in
theorem op25 : Opens.Opens Try.prog 25 k25 (fun x_ => ((Lit.int .u16 x_.f0).wf = true) ∧ ((Lit.int .u16 x_.f1).wf = true) ∧ ((Lit.int .u16 x_.f2).wf = true) ∧ ((Lit.int .u32 x_.f3).wf = true) ∧ ((Lit.int .u32 x_.f4).wf = true) ∧ ((Lit.int .u32 x_.f5).wf = true) ∧ ((Lit.int .u32 x_.f6).wf = true) ∧ (x_.f7.size ≤ maxLen) ∧ (x_.f8.size ≤ maxLen)) := by
  refine ⟨cells25, fun {H enc w base spare held fuel cs x} h => ?_⟩
  obtain ⟨xs, n_, _, _, hl, hxl, hf⟩ := DataW.trod_struct Try.underlying25 h
  rw [cells25] at hl
  replace hxl : xs.length = 9 := hxl
  obtain ⟨v0, v1, v2, v3, v4, v5, v6, v7, v8, rfl⟩ : ∃ v0 v1 v2 v3 v4 v5 v6 v7 v8, cs = [v0, v1, v2, v3, v4, v5, v6, v7, v8] := by
    match cs, hl with
    | [v0, v1, v2, v3, v4, v5, v6, v7, v8], _ => exact ⟨v0, v1, v2, v3, v4, v5, v6, v7, v8, rfl⟩
  have g0 := hf 0 _ rfl
  rw [List.getElem?_eq_getElem (by omega)] at g0
  (try simp only [List.getElem_toArray, List.getElem_cons_zero, List.getElem_cons_succ] at g0)
  rw [cells22] at g0
  replace g0 : DataW.trod enc Try.prog w base spare held n_ 22 [v0] = some xs[0] := g0
  obtain ⟨a0, k0_, o0⟩ := op22.get g0
  have g1 := hf 1 _ rfl
  rw [List.getElem?_eq_getElem (by omega)] at g1
  (try simp only [List.getElem_toArray, List.getElem_cons_zero, List.getElem_cons_succ] at g1)
  rw [cells22] at g1
  replace g1 : DataW.trod enc Try.prog w base spare held n_ 22 [v1] = some xs[1] := g1
  obtain ⟨a1, k1_, o1⟩ := op22.get g1
  have g2 := hf 2 _ rfl
  rw [List.getElem?_eq_getElem (by omega)] at g2
  (try simp only [List.getElem_toArray, List.getElem_cons_zero, List.getElem_cons_succ] at g2)
  rw [cells22] at g2
  replace g2 : DataW.trod enc Try.prog w base spare held n_ 22 [v2] = some xs[2] := g2
  obtain ⟨a2, k2_, o2⟩ := op22.get g2
  have g3 := hf 3 _ rfl
  rw [List.getElem?_eq_getElem (by omega)] at g3
  (try simp only [List.getElem_toArray, List.getElem_cons_zero, List.getElem_cons_succ] at g3)
  rw [cells23] at g3
  replace g3 : DataW.trod enc Try.prog w base spare held n_ 23 [v3] = some xs[3] := g3
  obtain ⟨a3, k3_, o3⟩ := op23.get g3
  have g4 := hf 4 _ rfl
  rw [List.getElem?_eq_getElem (by omega)] at g4
  (try simp only [List.getElem_toArray, List.getElem_cons_zero, List.getElem_cons_succ] at g4)
  rw [cells23] at g4
  replace g4 : DataW.trod enc Try.prog w base spare held n_ 23 [v4] = some xs[4] := g4
  obtain ⟨a4, k4_, o4⟩ := op23.get g4
  have g5 := hf 5 _ rfl
  rw [List.getElem?_eq_getElem (by omega)] at g5
  (try simp only [List.getElem_toArray, List.getElem_cons_zero, List.getElem_cons_succ] at g5)
  rw [cells23] at g5
  replace g5 : DataW.trod enc Try.prog w base spare held n_ 23 [v5] = some xs[5] := g5
  obtain ⟨a5, k5_, o5⟩ := op23.get g5
  have g6 := hf 6 _ rfl
  rw [List.getElem?_eq_getElem (by omega)] at g6
  (try simp only [List.getElem_toArray, List.getElem_cons_zero, List.getElem_cons_succ] at g6)
  rw [cells23] at g6
  replace g6 : DataW.trod enc Try.prog w base spare held n_ 23 [v6] = some xs[6] := g6
  obtain ⟨a6, k6_, o6⟩ := op23.get g6
  have g7 := hf 7 _ rfl
  rw [List.getElem?_eq_getElem (by omega)] at g7
  (try simp only [List.getElem_toArray, List.getElem_cons_zero, List.getElem_cons_succ] at g7)
  rw [cells9] at g7
  replace g7 : DataW.trod enc Try.prog w base spare held n_ 9 [v7] = some xs[7] := g7
  obtain ⟨a7, k7_, o7⟩ := op9.get g7
  have g8 := hf 8 _ rfl
  rw [List.getElem?_eq_getElem (by omega)] at g8
  (try simp only [List.getElem_toArray, List.getElem_cons_zero, List.getElem_cons_succ] at g8)
  rw [cells9] at g8
  replace g8 : DataW.trod enc Try.prog w base spare held n_ 9 [v8] = some xs[8] := g8
  obtain ⟨a8, k8_, o8⟩ := op9.get g8
  exact ⟨⟨a0, a1, a2, a3, a4, a5, a6, a7, a8⟩, ⟨[v0], [v1, v2, v3, v4, v5, v6, v7, v8], rfl, k0_, ⟨[v1], [v2, v3, v4, v5, v6, v7, v8], rfl, k1_, ⟨[v2], [v3, v4, v5, v6, v7, v8], rfl, k2_, ⟨[v3], [v4, v5, v6, v7, v8], rfl, k3_, ⟨[v4], [v5, v6, v7, v8], rfl, k4_, ⟨[v5], [v6, v7, v8], rfl, k5_, ⟨[v6], [v7, v8], rfl, k6_, ⟨[v7], [v8], rfl, k7_, k8_⟩⟩⟩⟩⟩⟩⟩⟩, ⟨o0, o1, o2, o3, o4, o5, o6, o7, o8⟩⟩
theorem cells27 : Try.prog.cellsOf 27 = 15 := by kernel_rfl
set_option maxRecDepth 100000 in
theorem op27 : Opens.Opens Try.prog 27 k27 (fun x_ => ((Lit.int .u16 x_.f0).wf = true) ∧ ((Lit.int .u16 x_.f1).wf = true) ∧ ((Lit.int .u16 x_.f2).wf = true) ∧ ((Lit.int .u16 x_.f3).wf = true) ∧ ((Lit.int .u32 x_.f4).wf = true) ∧ ((Lit.int .u32 x_.f5).wf = true) ∧ ((Lit.int .u32 x_.f6).wf = true) ∧ ((Lit.int .u32 x_.f7).wf = true) ∧ ((Lit.int .u16 x_.f8).wf = true) ∧ ((Lit.int .u16 x_.f9).wf = true) ∧ ((Lit.int .u32 x_.f10).wf = true) ∧ ((Lit.int .u32 x_.f11).wf = true) ∧ (x_.f12.size ≤ maxLen) ∧ (x_.f13.size ≤ maxLen) ∧ (x_.f14.size ≤ maxLen)) := by
  refine ⟨cells27, fun {H enc w base spare held fuel cs x} h => ?_⟩
  obtain ⟨xs, n_, _, _, hl, hxl, hf⟩ := DataW.trod_struct Try.underlying27 h
  rw [cells27] at hl
  replace hxl : xs.length = 15 := hxl
  obtain ⟨v0, v1, v2, v3, v4, v5, v6, v7, v8, v9, v10, v11, v12, v13, v14, rfl⟩ : ∃ v0 v1 v2 v3 v4 v5 v6 v7 v8 v9 v10 v11 v12 v13 v14, cs = [v0, v1, v2, v3, v4, v5, v6, v7, v8, v9, v10, v11, v12, v13, v14] := by
    match cs, hl with
    | [v0, v1, v2, v3, v4, v5, v6, v7, v8, v9, v10, v11, v12, v13, v14], _ => exact ⟨v0, v1, v2, v3, v4, v5, v6, v7, v8, v9, v10, v11, v12, v13, v14, rfl⟩
  have g0 := hf 0 _ rfl
  rw [List.getElem?_eq_getElem (by omega)] at g0
  (try simp only [List.getElem_toArray, List.getElem_cons_zero, List.getElem_cons_succ] at g0)
  rw [cells22] at g0
  replace g0 : DataW.trod enc Try.prog w base spare held n_ 22 [v0] = some xs[0] := g0
  obtain ⟨a0, k0_, o0⟩ := op22.get g0
  have g1 := hf 1 _ rfl
  rw [List.getElem?_eq_getElem (by omega)] at g1
  (try simp only [List.getElem_toArray, List.getElem_cons_zero, List.getElem_cons_succ] at g1)
  rw [cells22] at g1
  replace g1 : DataW.trod enc Try.prog w base spare held n_ 22 [v1] = some xs[1] := g1
  obtain ⟨a1, k1_, o1⟩ := op22.get g1
  have g2 := hf 2 _ rfl
  rw [List.getElem?_eq_getElem (by omega)] at g2
  (try simp only [List.getElem_toArray, List.getElem_cons_zero, List.getElem_cons_succ] at g2)
  rw [cells22] at g2
  replace g2 : DataW.trod enc Try.prog w base spare held n_ 22 [v2] = some xs[2] := g2
  obtain ⟨a2, k2_, o2⟩ := op22.get g2
  have g3 := hf 3 _ rfl
  rw [List.getElem?_eq_getElem (by omega)] at g3
  (try simp only [List.getElem_toArray, List.getElem_cons_zero, List.getElem_cons_succ] at g3)
  rw [cells22] at g3
  replace g3 : DataW.trod enc Try.prog w base spare held n_ 22 [v3] = some xs[3] := g3
  obtain ⟨a3, k3_, o3⟩ := op22.get g3
  have g4 := hf 4 _ rfl
  rw [List.getElem?_eq_getElem (by omega)] at g4
  (try simp only [List.getElem_toArray, List.getElem_cons_zero, List.getElem_cons_succ] at g4)
  rw [cells23] at g4
  replace g4 : DataW.trod enc Try.prog w base spare held n_ 23 [v4] = some xs[4] := g4
  obtain ⟨a4, k4_, o4⟩ := op23.get g4
  have g5 := hf 5 _ rfl
  rw [List.getElem?_eq_getElem (by omega)] at g5
  (try simp only [List.getElem_toArray, List.getElem_cons_zero, List.getElem_cons_succ] at g5)
  rw [cells23] at g5
  replace g5 : DataW.trod enc Try.prog w base spare held n_ 23 [v5] = some xs[5] := g5
  obtain ⟨a5, k5_, o5⟩ := op23.get g5
  have g6 := hf 6 _ rfl
  rw [List.getElem?_eq_getElem (by omega)] at g6
  (try simp only [List.getElem_toArray, List.getElem_cons_zero, List.getElem_cons_succ] at g6)
  rw [cells23] at g6
  replace g6 : DataW.trod enc Try.prog w base spare held n_ 23 [v6] = some xs[6] := g6
  obtain ⟨a6, k6_, o6⟩ := op23.get g6
  have g7 := hf 7 _ rfl
  rw [List.getElem?_eq_getElem (by omega)] at g7
  (try simp only [List.getElem_toArray, List.getElem_cons_zero, List.getElem_cons_succ] at g7)
  rw [cells23] at g7
  replace g7 : DataW.trod enc Try.prog w base spare held n_ 23 [v7] = some xs[7] := g7
  obtain ⟨a7, k7_, o7⟩ := op23.get g7
  have g8 := hf 8 _ rfl
  rw [List.getElem?_eq_getElem (by omega)] at g8
  (try simp only [List.getElem_toArray, List.getElem_cons_zero, List.getElem_cons_succ] at g8)
  rw [cells22] at g8
  replace g8 : DataW.trod enc Try.prog w base spare held n_ 22 [v8] = some xs[8] := g8
  obtain ⟨a8, k8_, o8⟩ := op22.get g8
  have g9 := hf 9 _ rfl
  rw [List.getElem?_eq_getElem (by omega)] at g9
  (try simp only [List.getElem_toArray, List.getElem_cons_zero, List.getElem_cons_succ] at g9)
  rw [cells22] at g9
  replace g9 : DataW.trod enc Try.prog w base spare held n_ 22 [v9] = some xs[9] := g9
  obtain ⟨a9, k9_, o9⟩ := op22.get g9
  have g10 := hf 10 _ rfl
  rw [List.getElem?_eq_getElem (by omega)] at g10
  (try simp only [List.getElem_toArray, List.getElem_cons_zero, List.getElem_cons_succ] at g10)
  rw [cells23] at g10
  replace g10 : DataW.trod enc Try.prog w base spare held n_ 23 [v10] = some xs[10] := g10
  obtain ⟨a10, k10_, o10⟩ := op23.get g10
  have g11 := hf 11 _ rfl
  rw [List.getElem?_eq_getElem (by omega)] at g11
  (try simp only [List.getElem_toArray, List.getElem_cons_zero, List.getElem_cons_succ] at g11)
  rw [cells23] at g11
  replace g11 : DataW.trod enc Try.prog w base spare held n_ 23 [v11] = some xs[11] := g11
  obtain ⟨a11, k11_, o11⟩ := op23.get g11
  have g12 := hf 12 _ rfl
  rw [List.getElem?_eq_getElem (by omega)] at g12
  (try simp only [List.getElem_toArray, List.getElem_cons_zero, List.getElem_cons_succ] at g12)
  rw [cells9] at g12
  replace g12 : DataW.trod enc Try.prog w base spare held n_ 9 [v12] = some xs[12] := g12
  obtain ⟨a12, k12_, o12⟩ := op9.get g12
  have g13 := hf 13 _ rfl
  rw [List.getElem?_eq_getElem (by omega)] at g13
  (try simp only [List.getElem_toArray, List.getElem_cons_zero, List.getElem_cons_succ] at g13)
  rw [cells9] at g13
  replace g13 : DataW.trod enc Try.prog w base spare held n_ 9 [v13] = some xs[13] := g13
  obtain ⟨a13, k13_, o13⟩ := op9.get g13
  have g14 := hf 14 _ rfl
  rw [List.getElem?_eq_getElem (by omega)] at g14
  (try simp only [List.getElem_toArray, List.getElem_cons_zero, List.getElem_cons_succ] at g14)
  rw [cells9] at g14
  replace g14 : DataW.trod enc Try.prog w base spare held n_ 9 [v14] = some xs[14] := g14
  obtain ⟨a14, k14_, o14⟩ := op9.get g14
  exact ⟨⟨a0, a1, a2, a3, a4, a5, a6, a7, a8, a9, a10, a11, a12, a13, a14⟩, ⟨[v0], [v1, v2, v3, v4, v5, v6, v7, v8, v9, v10, v11, v12, v13, v14], rfl, k0_, ⟨[v1], [v2, v3, v4, v5, v6, v7, v8, v9, v10, v11, v12, v13, v14], rfl, k1_, ⟨[v2], [v3, v4, v5, v6, v7, v8, v9, v10, v11, v12, v13, v14], rfl, k2_, ⟨[v3], [v4, v5, v6, v7, v8, v9, v10, v11, v12, v13, v14], rfl, k3_, ⟨[v4], [v5, v6, v7, v8, v9, v10, v11, v12, v13, v14], rfl, k4_, ⟨[v5], [v6, v7, v8, v9, v10, v11, v12, v13, v14], rfl, k5_, ⟨[v6], [v7, v8, v9, v10, v11, v12, v13, v14], rfl, k6_, ⟨[v7], [v8, v9, v10, v11, v12, v13, v14], rfl, k7_, ⟨[v8], [v9, v10, v11, v12, v13, v14], rfl, k8_, ⟨[v9], [v10, v11, v12, v13, v14], rfl, k9_, ⟨[v10], [v11, v12, v13, v14], rfl, k10_, ⟨[v11], [v12, v13, v14], rfl, k11_, ⟨[v12], [v13, v14], rfl, k12_, ⟨[v13], [v14], rfl, k13_, k14_⟩⟩⟩⟩⟩⟩⟩⟩⟩⟩⟩⟩⟩⟩, ⟨o0, o1, o2, o3, o4, o5, o6, o7, o8, o9, o10, o11, o12, o13, o14⟩⟩
set_option maxRecDepth 100000 in
theorem op28 : Opens.Opens Try.prog 28 (Kd.int .u64) (fun x_ => (Lit.int .u64 x_).wf = true) := Opens.Opens.int Try.underlying28 (by kernel_rfl)
theorem cells30 : Try.prog.cellsOf 30 = 3 := by kernel_rfl
theorem cells28 : Try.prog.cellsOf 28 = 1 := by kernel_rfl
set_option maxRecDepth 100000 in
theorem op30 : Opens.Opens Try.prog 30 k30 (fun x_ => ((Lit.int .u32 x_.f0).wf = true) ∧ ((Lit.int .u64 x_.f1).wf = true) ∧ ((Lit.int .u64 x_.f2).wf = true)) := by
  refine ⟨cells30, fun {H enc w base spare held fuel cs x} h => ?_⟩
  obtain ⟨xs, n_, _, _, hl, hxl, hf⟩ := DataW.trod_struct Try.underlying30 h
  rw [cells30] at hl
  replace hxl : xs.length = 3 := hxl
  obtain ⟨v0, v1, v2, rfl⟩ : ∃ v0 v1 v2, cs = [v0, v1, v2] := by
    match cs, hl with
    | [v0, v1, v2], _ => exact ⟨v0, v1, v2, rfl⟩
  have g0 := hf 0 _ rfl
  rw [List.getElem?_eq_getElem (by omega)] at g0
  (try simp only [List.getElem_toArray, List.getElem_cons_zero, List.getElem_cons_succ] at g0)
  rw [cells23] at g0
  replace g0 : DataW.trod enc Try.prog w base spare held n_ 23 [v0] = some xs[0] := g0
  obtain ⟨a0, k0_, o0⟩ := op23.get g0
  have g1 := hf 1 _ rfl
  rw [List.getElem?_eq_getElem (by omega)] at g1
  (try simp only [List.getElem_toArray, List.getElem_cons_zero, List.getElem_cons_succ] at g1)
  rw [cells28] at g1
  replace g1 : DataW.trod enc Try.prog w base spare held n_ 28 [v1] = some xs[1] := g1
  obtain ⟨a1, k1_, o1⟩ := op28.get g1
  have g2 := hf 2 _ rfl
  rw [List.getElem?_eq_getElem (by omega)] at g2
  (try simp only [List.getElem_toArray, List.getElem_cons_zero, List.getElem_cons_succ] at g2)
  rw [cells28] at g2
  replace g2 : DataW.trod enc Try.prog w base spare held n_ 28 [v2] = some xs[2] := g2
  obtain ⟨a2, k2_, o2⟩ := op28.get g2
  exact ⟨⟨a0, a1, a2⟩, ⟨[v0], [v1, v2], rfl, k0_, ⟨[v1], [v2], rfl, k1_, k2_⟩⟩, ⟨o0, o1, o2⟩⟩
set_option maxRecDepth 100000 in
theorem lifted (os : Os) (started : os.Started) (H : Type) (enc : TypeId × Value → H) :
    ReturnsInHanded {} Try.checked os 5 .any (Rows.headerBackSpec.pre6 enc Try.prog Try.f5 Rows.headerBackRow.domain false) (Rows.headerBackSpec.post enc Try.prog Try.f5 false true false false) := by
  refine returnsInHanded_of_change_sized (C := Try.checked) own started (by kernel_rfl) Try.func5
    (ChangeSpec.witness6 (enc := enc) (C := Try.checked) false ⟨#[], #[.agg #[(.int .u16 0), (.int .u16 0), (.int .u16 0), (.int .u32 0), (.int .u32 0), (.int .u32 0), (.int .u32 0), (.string ⟨#[]⟩), (.string ⟨#[]⟩)], .agg #[(.int .u16 0), (.int .u16 0), (.int .u16 0), (.int .u16 0), (.int .u32 0), (.int .u32 0), (.int .u32 0), (.int .u32 0), (.int .u16 0), (.int .u16 0), (.int .u32 0), (.int .u32 0), (.string ⟨#[]⟩), (.string ⟨#[]⟩), (.string ⟨#[]⟩)], .agg #[(.int .u32 0), (.int .u64 0), (.int .u64 0)], .string ByteArray.empty, .string ByteArray.empty, .int .i64 0], []⟩ 8 (by kernel_rfl) (by kernel_rfl) (by kernel_rfl) (by kernel_rfl)) ?_
  intro W base args ds gs before hval0 hW hcnd hsz0 _
  have hsz : (DataW.weightsEach Try.prog (Try.f5.params.toList ++ Rows.headerBackSpec.plain.varTypes Try.prog) (ds ++ gs)).all (· ≤ reachBytes) = true := hsz0
  have hval : ∀ (j : Nat) t v, Try.f5.params[j]? = some t → args[j]? = some v → Value.okWide Try.prog W .any base t v := hval0
  have hW' := hW
  obtain ⟨p, q, hA0, hV, rfl, hfz, hnd⟩ := hW
  have hA : DataW.TrodAll enc Try.prog W 0 (fun _ => true) true Try.f5.params.toList args.toList ds p := hA0
  rw [Try.params5] at hA hval hsz
  obtain ⟨v0, vs0, d0, ds0, p0, q0, hargs, rfl, rfl, h0, r0⟩ := trodAll_cons hA
  obtain ⟨v1, vs1, d1, ds1, p1, q1, rfl, rfl, rfl, h1, r1⟩ := trodAll_cons r0
  obtain ⟨v2, vs2, d2, ds2, p2, q2, rfl, rfl, rfl, h2, r2⟩ := trodAll_cons r1
  obtain ⟨v3, vs3, d3, ds3, p3, q3, rfl, rfl, rfl, h3, r3⟩ := trodAll_cons r2
  obtain ⟨v4, vs4, d4, ds4, p4, q4, rfl, rfl, rfl, h4, r4⟩ := trodAll_cons r3
  obtain ⟨v5, vs5, d5, ds5, p5, q5, rfl, rfl, rfl, h5, r5⟩ := trodAll_cons r4
  obtain ⟨rfl, rfl, rfl⟩ := trodAll_nil r5
  obtain rfl : args = #[v0, v1, v2, v3, v4, v5] := by cases args; simp_all
  obtain ⟨rfl, rfl⟩ := trodVars_none hV
  obtain ⟨cs0, rfl, _⟩ := okWide_struct Try.underlying25 (hval 0 25 v0 rfl rfl)
  have k0 := h0
  have lt0 : ∀ x ∈ p0, x.block < W.heap.size := by obtain ⟨m, hm⟩ := k0; exact DataW.trod_lt m _ _ _ hm
  have hh0 := h0
  obtain ⟨m0_, hm0_⟩ := hh0
  obtain ⟨a0, hK0, hok0⟩ := op25.get hm0_
  obtain ⟨cs1, rfl, _⟩ := okWide_struct Try.underlying27 (hval 1 27 v1 rfl rfl)
  have k1 := h1
  have lt1 : ∀ x ∈ p1, x.block < W.heap.size := by obtain ⟨m, hm⟩ := k1; exact DataW.trod_lt m _ _ _ hm
  have hh1 := h1
  obtain ⟨m1_, hm1_⟩ := hh1
  obtain ⟨a1, hK1, hok1⟩ := op27.get hm1_
  obtain ⟨cs2, rfl, _⟩ := okWide_struct Try.underlying30 (hval 2 30 v2 rfl rfl)
  have k2 := h2
  have lt2 : ∀ x ∈ p2, x.block < W.heap.size := by obtain ⟨m, hm⟩ := k2; exact DataW.trod_lt m _ _ _ hm
  have hh2 := h2
  obtain ⟨m2_, hm2_⟩ := hh2
  obtain ⟨a2, hK2, hok2⟩ := op30.get hm2_
  obtain ⟨a3, rfl, rfl, rfl, y3⟩ := open_string Try.underlying9 (hval 3 9 v3 rfl rfl) h3
  have w3 : a3.size ≤ 140737488351232 := by
    have z := sized_string hsz (j := 3) (t := 9) rfl rfl
    rw [Array.length_toList] at z
    exact z
  obtain ⟨a4, rfl, rfl, rfl, y4⟩ := open_string Try.underlying9 (hval 4 9 v4 rfl rfl) h4
  have w4 : a4.size ≤ 140737488351232 := by
    have z := sized_string hsz (j := 4) (t := 9) rfl rfl
    rw [Array.length_toList] at z
    exact z
  obtain ⟨a5, rfl, rfl, rfl, w5⟩ := open_int Try.underlying3 (hval 5 3 v5 rfl rfl) h5
  clear hA0 hval0 hsz0 hsz
  refine (Walk.HeaderBack a0 cs0 a1 cs1 a2 cs2 a3 a4 a5 W hK0 hok0 hK1 hok1 hK2 hok2 w3 w4 w5).mono fun e W' ⟨he, bel⟩ => ?_
  subst he
  exact ⟨_, rfl, _, _, _, [], _, [], hW', trodAll_mk1 (shut_bool Try.underlying4 _), (trodAll_cons_mk (Below.trod laidOut (by kernel_rfl) (of_decide_eq_true (by kernel_rfl)) k0 bel lt0) (trodAll_cons_mk (Below.trod laidOut (by kernel_rfl) (of_decide_eq_true (by kernel_rfl)) k1 bel lt1) (trodAll_cons_mk (Below.trod laidOut (by kernel_rfl) (of_decide_eq_true (by kernel_rfl)) k2 bel lt2) (trodAll_cons_mk (shut_string Try.underlying9 y3) (trodAll_cons_mk (shut_string Try.underlying9 y4) (trodAll_cons_mk (shut_int Try.underlying3 w5) trodAll_mk0)))))), rfl, bel.frame _, fun h => by cases h⟩
theorem over : Rows.headerBackRow.holds Try.pinned (OpenSpec.ofChange Rows.headerBackSpec) :=
  OpenClaim.holds_of_wide 5 Try.f5 rfl rfl rfl rfl rfl rfl rfl ⟨rfl, rfl, rfl, rfl, rfl⟩ rfl rfl rfl rfl rfl (by kernel_rfl) Try.func5 (by kernel_rfl)
    (of_decide_eq_true (by kernel_rfl)) (by unfold Func.isWrapper; first | (rw [if_pos (by decide +kernel)]; kernel_rfl) | (rw [if_neg (by decide +kernel)]; exact ⟨rfl, rfl⟩))
    (fun os started H enc _ => lifted os started H enc)
theorem proved : Rows.HeaderBackSaid := over
end Go.Proofs.Ytnjfddmajiihjaa.headerBack
namespace Go.Proofs.Ytnjfddmajiihjaa
theorem headerBack_holds : Rows.HeaderBackSaid := headerBack.proved
end Go.Proofs.Ytnjfddmajiihjaa
