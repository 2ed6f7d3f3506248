/- FieldWide: the row, out of its walk (YtloojhhjljneeaaWalkFieldWide). No condition beside the statement's own. Written by wip/rowgen.py. -/
import Derived.Test.YtloojhhjljneeaaRows
import Derived.Test.YtloojhhjljneeaaWalkFieldWide
import Derived.Test.YtloojhhjljneeaaOpens
import Derived.Test.YtloojhhjljneeaaWSized
import Derived.WalkKit
import Derived.ProofKit
import Derived.OpenShut
import Derived.ShutString
import Derived.ChangeOld
import Derived.Below
import Derived.SizedLaws
import Derived.SliceStrings
namespace Go.Proofs.Ytloojhhjljneeaa.fieldWide
open Go Go.ChangeShapes Go.WideShapes Go.ChangeAt Go.RowKit Go.Proofs.Ytloojhhjljneeaa.P Go.Proofs.YtloojhhjljneeaaW.PrintWords
open Go.ChangeMaps (open_string shut_string)
set_option linter.unusedVariables false
set_option linter.unusedSimpArgs false
theorem own : ownKnob Try.prog.godebug = none := by kernel_rfl
theorem laidOut : laidOutB Try.prog = true := by kernel_rfl
set_option maxRecDepth 100000 in
theorem op4 : Opens.Opens Try.prog 4 Kd.bool (fun x_ => True) := Opens.Opens.bool Try.underlying4 (by kernel_rfl)
theorem cells44 : Try.prog.cellsOf 44 = 4 := by kernel_rfl
theorem cells4 : Try.prog.cellsOf 4 = 1 := by kernel_rfl
set_option maxRecDepth 100000 in
theorem op44 : Opens.Opens Try.prog 44 k44 (fun x_ => (True) ∧ (True) ∧ (True) ∧ (True)) := by
  refine ⟨cells44, fun {H enc w base spare held fuel cs x} h => ?_⟩
  obtain ⟨xs, n_, _, _, hl, hxl, hf⟩ := DataW.trod_struct Try.underlying44 h
  rw [cells44] at hl
  replace hxl : xs.length = 4 := hxl
  obtain ⟨v0, v1, v2, v3, rfl⟩ : ∃ v0 v1 v2 v3, cs = [v0, v1, v2, v3] := by
    match cs, hl with
    | [v0, v1, v2, v3], _ => exact ⟨v0, v1, v2, v3, rfl⟩
  have g0 := hf 0 _ rfl
  rw [List.getElem?_eq_getElem (by omega)] at g0
  (try simp only [List.getElem_toArray, List.getElem_cons_zero, List.getElem_cons_succ] at g0)
  rw [cells4] at g0
  replace g0 : DataW.trod enc Try.prog w base spare held n_ 4 [v0] = some xs[0] := g0
  obtain ⟨a0, k0_, o0⟩ := op4.get g0
  have g1 := hf 1 _ rfl
  rw [List.getElem?_eq_getElem (by omega)] at g1
  (try simp only [List.getElem_toArray, List.getElem_cons_zero, List.getElem_cons_succ] at g1)
  rw [cells4] at g1
  replace g1 : DataW.trod enc Try.prog w base spare held n_ 4 [v1] = some xs[1] := g1
  obtain ⟨a1, k1_, o1⟩ := op4.get g1
  have g2 := hf 2 _ rfl
  rw [List.getElem?_eq_getElem (by omega)] at g2
  (try simp only [List.getElem_toArray, List.getElem_cons_zero, List.getElem_cons_succ] at g2)
  rw [cells4] at g2
  replace g2 : DataW.trod enc Try.prog w base spare held n_ 4 [v2] = some xs[2] := g2
  obtain ⟨a2, k2_, o2⟩ := op4.get g2
  have g3 := hf 3 _ rfl
  rw [List.getElem?_eq_getElem (by omega)] at g3
  (try simp only [List.getElem_toArray, List.getElem_cons_zero, List.getElem_cons_succ] at g3)
  rw [cells4] at g3
  replace g3 : DataW.trod enc Try.prog w base spare held n_ 4 [v3] = some xs[3] := g3
  obtain ⟨a3, k3_, o3⟩ := op4.get g3
  exact ⟨⟨a0, a1, a2, a3⟩, ⟨[v0], [v1, v2, v3], rfl, k0_, ⟨[v1], [v2, v3], rfl, k1_, ⟨[v2], [v3], rfl, k2_, k3_⟩⟩⟩, ⟨o0, o1, o2, o3⟩⟩
set_option maxRecDepth 100000 in
theorem op45 : Opens.Opens Try.prog 45 (Kd.int .u64) (fun x_ => (Lit.int .u64 x_).wf = true) := Opens.Opens.int Try.underlying45 (by kernel_rfl)
set_option maxRecDepth 100000 in
theorem op22 : Opens.Opens Try.prog 22 (Kd.int .u32) (fun x_ => (Lit.int .u32 x_).wf = true) := Opens.Opens.int Try.underlying22 (by kernel_rfl)
theorem cells47 : Try.prog.cellsOf 47 = 4 := by kernel_rfl
theorem cells45 : Try.prog.cellsOf 45 = 1 := by kernel_rfl
theorem cells22 : Try.prog.cellsOf 22 = 1 := by kernel_rfl
set_option maxRecDepth 100000 in
theorem op47 : Opens.Opens Try.prog 47 k47 (fun x_ => ((Lit.int .u64 x_.f0).wf = true) ∧ ((Lit.int .u64 x_.f1).wf = true) ∧ ((Lit.int .u64 x_.f2).wf = true) ∧ ((Lit.int .u32 x_.f3).wf = true)) := by
  refine ⟨cells47, fun {H enc w base spare held fuel cs x} h => ?_⟩
  obtain ⟨xs, n_, _, _, hl, hxl, hf⟩ := DataW.trod_struct Try.underlying47 h
  rw [cells47] at hl
  replace hxl : xs.length = 4 := hxl
  obtain ⟨v0, v1, v2, v3, rfl⟩ : ∃ v0 v1 v2 v3, cs = [v0, v1, v2, v3] := by
    match cs, hl with
    | [v0, v1, v2, v3], _ => exact ⟨v0, v1, v2, v3, rfl⟩
  have g0 := hf 0 _ rfl
  rw [List.getElem?_eq_getElem (by omega)] at g0
  (try simp only [List.getElem_toArray, List.getElem_cons_zero, List.getElem_cons_succ] at g0)
  rw [cells45] at g0
  replace g0 : DataW.trod enc Try.prog w base spare held n_ 45 [v0] = some xs[0] := g0
  obtain ⟨a0, k0_, o0⟩ := op45.get g0
  have g1 := hf 1 _ rfl
  rw [List.getElem?_eq_getElem (by omega)] at g1
  (try simp only [List.getElem_toArray, List.getElem_cons_zero, List.getElem_cons_succ] at g1)
  rw [cells45] at g1
  replace g1 : DataW.trod enc Try.prog w base spare held n_ 45 [v1] = some xs[1] := g1
  obtain ⟨a1, k1_, o1⟩ := op45.get g1
  have g2 := hf 2 _ rfl
  rw [List.getElem?_eq_getElem (by omega)] at g2
  (try simp only [List.getElem_toArray, List.getElem_cons_zero, List.getElem_cons_succ] at g2)
  rw [cells45] at g2
  replace g2 : DataW.trod enc Try.prog w base spare held n_ 45 [v2] = some xs[2] := g2
  obtain ⟨a2, k2_, o2⟩ := op45.get g2
  have g3 := hf 3 _ rfl
  rw [List.getElem?_eq_getElem (by omega)] at g3
  (try simp only [List.getElem_toArray, List.getElem_cons_zero, List.getElem_cons_succ] at g3)
  rw [cells22] at g3
  replace g3 : DataW.trod enc Try.prog w base spare held n_ 22 [v3] = some xs[3] := g3
  obtain ⟨a3, k3_, o3⟩ := op22.get g3
  exact ⟨⟨a0, a1, a2, a3⟩, ⟨[v0], [v1, v2, v3], rfl, k0_, ⟨[v1], [v2, v3], rfl, k1_, ⟨[v2], [v3], rfl, k2_, k3_⟩⟩⟩, ⟨o0, o1, o2, o3⟩⟩
set_option maxRecDepth 100000 in
theorem lifted (os : Os) (started : os.Started) (H : Type) (enc : TypeId × Value → H) :
    ReturnsInHanded {} Try.checked os 5 .any (Rows.fieldWideSpec.pre6 enc Try.prog Try.f5 Rows.fieldWideRow.domain false) (Rows.fieldWideSpec.post enc Try.prog Try.f5 false true false false) := by
  refine returnsInHanded_of_change_sized (C := Try.checked) own started (by kernel_rfl) Try.func5
    (ChangeSpec.witness6 (enc := enc) (C := Try.checked) false ⟨#[], #[.string ByteArray.empty, .agg #[(.bool false), (.bool false), (.bool false), (.bool false)], .agg #[(.int .u64 0), (.int .u64 0), (.int .u64 0), (.int .u32 0)]], []⟩ 8 (by kernel_rfl) (by kernel_rfl) (by kernel_rfl) (by kernel_rfl)) ?_
  intro W base args ds gs before hval0 hW hcnd hsz0 _
  have hsz : (DataW.weightsEach Try.prog (Try.f5.params.toList ++ Rows.fieldWideSpec.plain.varTypes Try.prog) (ds ++ gs)).all (· ≤ reachBytes) = true := hsz0
  have hval : ∀ (j : Nat) t v, Try.f5.params[j]? = some t → args[j]? = some v → Value.okWide Try.prog W .any base t v := hval0
  have hW' := hW
  obtain ⟨p, q, hA0, hV, rfl, hfz, hnd⟩ := hW
  have hA : DataW.TrodAll enc Try.prog W 0 (fun _ => true) true Try.f5.params.toList args.toList ds p := hA0
  rw [Try.params5] at hA hval hsz
  obtain ⟨v0, vs0, d0, ds0, p0, q0, hargs, rfl, rfl, h0, r0⟩ := trodAll_cons hA
  obtain ⟨v1, vs1, d1, ds1, p1, q1, rfl, rfl, rfl, h1, r1⟩ := trodAll_cons r0
  obtain ⟨v2, vs2, d2, ds2, p2, q2, rfl, rfl, rfl, h2, r2⟩ := trodAll_cons r1
  obtain ⟨rfl, rfl, rfl⟩ := trodAll_nil r2
  obtain rfl : args = #[v0, v1, v2] := by cases args; simp_all
  obtain ⟨rfl, rfl⟩ := trodVars_none hV
  obtain ⟨a0, rfl, rfl, rfl, y0⟩ := open_string Try.underlying9 (hval 0 9 v0 rfl rfl) h0
  have w0 : a0.size ≤ 140737488351232 := by
    have z := sized_string hsz (j := 0) (t := 9) rfl rfl
    rw [Array.length_toList] at z
    exact z
  obtain ⟨cs1, rfl, _⟩ := okWide_struct Try.underlying44 (hval 1 44 v1 rfl rfl)
  have k1 := h1
  have lt1 : ∀ x ∈ p1, x.block < W.heap.size := by obtain ⟨m, hm⟩ := k1; exact DataW.trod_lt m _ _ _ hm
  have hh1 := h1
  obtain ⟨m1_, hm1_⟩ := hh1
  obtain ⟨a1, hK1, hok1⟩ := op44.get hm1_
  obtain ⟨cs2, rfl, _⟩ := okWide_struct Try.underlying47 (hval 2 47 v2 rfl rfl)
  have k2 := h2
  have lt2 : ∀ x ∈ p2, x.block < W.heap.size := by obtain ⟨m, hm⟩ := k2; exact DataW.trod_lt m _ _ _ hm
  have hh2 := h2
  obtain ⟨m2_, hm2_⟩ := hh2
  obtain ⟨a2, hK2, hok2⟩ := op47.get hm2_
  clear hA0 hval0 hsz0 hsz
  refine (Walk.FieldWide a0 a1 cs1 a2 cs2 W w0 hK1 hok1 hK2 hok2).mono fun e W' ⟨he, bel⟩ => ?_
  subst he
  exact ⟨_, rfl, _, _, _, [], _, [], hW', trodAll_mk1 (shut_bool Try.underlying4 _), (trodAll_cons_mk (shut_string Try.underlying9 y0) (trodAll_cons_mk (Below.trod laidOut (by kernel_rfl) (of_decide_eq_true (by kernel_rfl)) k1 bel lt1) (trodAll_cons_mk (Below.trod laidOut (by kernel_rfl) (of_decide_eq_true (by kernel_rfl)) k2 bel lt2) trodAll_mk0))), rfl, bel.frame _, fun h => by cases h⟩
theorem over : Rows.fieldWideRow.holds Try.pinned (OpenSpec.ofChange Rows.fieldWideSpec) :=
  OpenClaim.holds_of_wide 5 Try.f5 rfl rfl rfl rfl rfl rfl rfl ⟨rfl, rfl, rfl, rfl, rfl⟩ rfl rfl rfl rfl rfl (by kernel_rfl) Try.func5 (by kernel_rfl)
    (of_decide_eq_true (by kernel_rfl)) (by unfold Func.isWrapper; first | (rw [if_pos (by decide +kernel)]; kernel_rfl) | (rw [if_neg (by decide +kernel)]; exact ⟨rfl, rfl⟩))
    (fun os started H enc _ => lifted os started H enc)
theorem proved : Rows.FieldWideSaid := over
end Go.Proofs.Ytloojhhjljneeaa.fieldWide
namespace Go.Proofs.Ytloojhhjljneeaa
theorem fieldWide_holds : Rows.FieldWideSaid := fieldWide.proved
end Go.Proofs.Ytloojhhjljneeaa
