/- FieldStamps: the row, out of its walk (YtloojhhjljneeaaWalkFieldStamps). No condition beside the statement's own. Written by wip/rowgen.py. -/
import Derived.Test.YtloojhhjljneeaaRows
import Derived.Test.YtloojhhjljneeaaWalkFieldStamps
import Derived.Test.YtloojhhjljneeaaOpens
import Derived.Test.YtloojhhjljneeaaWSized
import Derived.WalkKit
import Derived.ProofKit
import Derived.OpenShut
import Derived.ShutString
import Derived.ChangeOld
import Derived.Below
import Derived.SizedLaws
import Derived.SliceStrings
namespace Go.Proofs.Ytloojhhjljneeaa.fieldStamps
open Go Go.ChangeShapes Go.WideShapes Go.ChangeAt Go.RowKit Go.Proofs.Ytloojhhjljneeaa.P Go.Proofs.YtloojhhjljneeaaW.PrintWords
open Go.ChangeMaps (open_string shut_string)
set_option linter.unusedVariables false
set_option linter.unusedSimpArgs false
theorem own : ownKnob Try.prog.godebug = none := by kernel_rfl
theorem laidOut : laidOutB Try.prog = true := by kernel_rfl
set_option maxRecDepth 100000 in
theorem op5 : Opens.Opens Try.prog 5 (Kd.int .u8) (fun x_ => (Lit.int .u8 x_).wf = true) := Opens.Opens.int Try.underlying5 (by kernel_rfl)
set_option maxRecDepth 100000 in
theorem op21 : Opens.Opens Try.prog 21 (Kd.int .i32) (fun x_ => (Lit.int .i32 x_).wf = true) := Opens.Opens.int Try.underlying21 (by kernel_rfl)
theorem cells32 : Try.prog.cellsOf 32 = 4 := by kernel_rfl
theorem cells5 : Try.prog.cellsOf 5 = 1 := by kernel_rfl
theorem cells21 : Try.prog.cellsOf 21 = 1 := by kernel_rfl
set_option maxRecDepth 100000 in
theorem op32 : Opens.Opens Try.prog 32 k32 (fun x_ => ((Lit.int .u8 x_.f0).wf = true) ∧ ((Lit.int .i32 x_.f1).wf = true) ∧ ((Lit.int .i32 x_.f2).wf = true) ∧ ((Lit.int .i32 x_.f3).wf = true)) := by
  refine ⟨cells32, fun {H enc w base spare held fuel cs x} h => ?_⟩
  obtain ⟨xs, n_, _, _, hl, hxl, hf⟩ := DataW.trod_struct Try.underlying32 h
  rw [cells32] at hl
  replace hxl : xs.length = 4 := hxl
  obtain ⟨v0, v1, v2, v3, rfl⟩ : ∃ v0 v1 v2 v3, cs = [v0, v1, v2, v3] := by
    match cs, hl with
    | [v0, v1, v2, v3], _ => exact ⟨v0, v1, v2, v3, rfl⟩
  have g0 := hf 0 _ rfl
  rw [List.getElem?_eq_getElem (by omega)] at g0
  (try simp only [List.getElem_toArray, List.getElem_cons_zero, List.getElem_cons_succ] at g0)
  rw [cells5] at g0
  replace g0 : DataW.trod enc Try.prog w base spare held n_ 5 [v0] = some xs[0] := g0
  obtain ⟨a0, k0_, o0⟩ := op5.get g0
  have g1 := hf 1 _ rfl
  rw [List.getElem?_eq_getElem (by omega)] at g1
  (try simp only [List.getElem_toArray, List.getElem_cons_zero, List.getElem_cons_succ] at g1)
  rw [cells21] at g1
  replace g1 : DataW.trod enc Try.prog w base spare held n_ 21 [v1] = some xs[1] := g1
  obtain ⟨a1, k1_, o1⟩ := op21.get g1
  have g2 := hf 2 _ rfl
  rw [List.getElem?_eq_getElem (by omega)] at g2
  (try simp only [List.getElem_toArray, List.getElem_cons_zero, List.getElem_cons_succ] at g2)
  rw [cells21] at g2
  replace g2 : DataW.trod enc Try.prog w base spare held n_ 21 [v2] = some xs[2] := g2
  obtain ⟨a2, k2_, o2⟩ := op21.get g2
  have g3 := hf 3 _ rfl
  rw [List.getElem?_eq_getElem (by omega)] at g3
  (try simp only [List.getElem_toArray, List.getElem_cons_zero, List.getElem_cons_succ] at g3)
  rw [cells21] at g3
  replace g3 : DataW.trod enc Try.prog w base spare held n_ 21 [v3] = some xs[3] := g3
  obtain ⟨a3, k3_, o3⟩ := op21.get g3
  exact ⟨⟨a0, a1, a2, a3⟩, ⟨[v0], [v1, v2, v3], rfl, k0_, ⟨[v1], [v2, v3], rfl, k1_, ⟨[v2], [v3], rfl, k2_, k3_⟩⟩⟩, ⟨o0, o1, o2, o3⟩⟩
set_option maxRecDepth 100000 in
theorem lifted (os : Os) (started : os.Started) (H : Type) (enc : TypeId × Value → H) :
    ReturnsInHanded {} Try.checked os 4 .any (Rows.fieldStampsSpec.pre6 enc Try.prog Try.f4 Rows.fieldStampsRow.domain false) (Rows.fieldStampsSpec.post enc Try.prog Try.f4 false true false false) := by
  refine returnsInHanded_of_change_sized (C := Try.checked) own started (by kernel_rfl) Try.func4
    (ChangeSpec.witness6 (enc := enc) (C := Try.checked) false ⟨#[], #[.string ByteArray.empty, .agg #[(.int .u8 0), (.int .i32 0), (.int .i32 0), (.int .i32 0)], .bool false], []⟩ 8 (by kernel_rfl) (by kernel_rfl) (by kernel_rfl) (by kernel_rfl)) ?_
  intro W base args ds gs before hval0 hW hcnd hsz0 _
  have hsz : (DataW.weightsEach Try.prog (Try.f4.params.toList ++ Rows.fieldStampsSpec.plain.varTypes Try.prog) (ds ++ gs)).all (· ≤ reachBytes) = true := hsz0
  have hval : ∀ (j : Nat) t v, Try.f4.params[j]? = some t → args[j]? = some v → Value.okWide Try.prog W .any base t v := hval0
  have hW' := hW
  obtain ⟨p, q, hA0, hV, rfl, hfz, hnd⟩ := hW
  have hA : DataW.TrodAll enc Try.prog W 0 (fun _ => true) true Try.f4.params.toList args.toList ds p := hA0
  rw [Try.params4] at hA hval hsz
  obtain ⟨v0, vs0, d0, ds0, p0, q0, hargs, rfl, rfl, h0, r0⟩ := trodAll_cons hA
  obtain ⟨v1, vs1, d1, ds1, p1, q1, rfl, rfl, rfl, h1, r1⟩ := trodAll_cons r0
  obtain ⟨v2, vs2, d2, ds2, p2, q2, rfl, rfl, rfl, h2, r2⟩ := trodAll_cons r1
  obtain ⟨rfl, rfl, rfl⟩ := trodAll_nil r2
  obtain rfl : args = #[v0, v1, v2] := by cases args; simp_all
  obtain ⟨rfl, rfl⟩ := trodVars_none hV
  obtain ⟨a0, rfl, rfl, rfl, y0⟩ := open_string Try.underlying9 (hval 0 9 v0 rfl rfl) h0
  have w0 : a0.size ≤ 140737488351232 := by
    have z := sized_string hsz (j := 0) (t := 9) rfl rfl
    rw [Array.length_toList] at z
    exact z
  obtain ⟨cs1, rfl, _⟩ := okWide_struct Try.underlying32 (hval 1 32 v1 rfl rfl)
  have k1 := h1
  have lt1 : ∀ x ∈ p1, x.block < W.heap.size := by obtain ⟨m, hm⟩ := k1; exact DataW.trod_lt m _ _ _ hm
  have hh1 := h1
  obtain ⟨m1_, hm1_⟩ := hh1
  obtain ⟨a1, hK1, hok1⟩ := op32.get hm1_
  obtain ⟨a2, rfl, rfl, rfl⟩ := open_bool Try.underlying4 (hval 2 4 v2 rfl rfl) h2
  clear hA0 hval0 hsz0 hsz
  refine (Walk.FieldStamps a0 a1 cs1 a2 W w0 hK1 hok1).mono fun e W' ⟨he, bel⟩ => ?_
  subst he
  exact ⟨_, rfl, _, _, _, [], _, [], hW', trodAll_mk1 (shut_bool Try.underlying4 _), (trodAll_cons_mk (shut_string Try.underlying9 y0) (trodAll_cons_mk (Below.trod laidOut (by kernel_rfl) (of_decide_eq_true (by kernel_rfl)) k1 bel lt1) (trodAll_cons_mk (shut_bool Try.underlying4 _) trodAll_mk0))), rfl, bel.frame _, fun h => by cases h⟩
theorem over : Rows.fieldStampsRow.holds Try.pinned (OpenSpec.ofChange Rows.fieldStampsSpec) :=
  OpenClaim.holds_of_wide 4 Try.f4 rfl rfl rfl rfl rfl rfl rfl ⟨rfl, rfl, rfl, rfl, rfl⟩ rfl rfl rfl rfl rfl (by kernel_rfl) Try.func4 (by kernel_rfl)
    (of_decide_eq_true (by kernel_rfl)) (by unfold Func.isWrapper; first | (rw [if_pos (by decide +kernel)]; kernel_rfl) | (rw [if_neg (by decide +kernel)]; exact ⟨rfl, rfl⟩))
    (fun os started H enc _ => lifted os started H enc)
theorem proved : Rows.FieldStampsSaid := over
end Go.Proofs.Ytloojhhjljneeaa.fieldStamps
namespace Go.Proofs.Ytloojhhjljneeaa
theorem fieldStamps_holds : Rows.FieldStampsSaid := fieldStamps.proved
end Go.Proofs.Ytloojhhjljneeaa
