/- TailPrints: the row, out of its walk (YtdooampgkiodjaaWalkTailPrints). No condition beside the statement's own. Written by wip/rowgen.py. -/
import Derived.Test.YtdooampgkiodjaaRows
import Derived.Test.YtdooampgkiodjaaWalkTailPrints
import Derived.Test.YtdooampgkiodjaaOpens
import Derived.Test.YtdooampgkiodjaaWSized
import Derived.WalkKit
import Derived.ProofKit
import Derived.OpenShut
import Derived.ShutString
import Derived.ChangeOld
import Derived.Below
import Derived.SizedLaws
import Derived.SliceStrings
namespace Go.Proofs.Ytdooampgkiodjaa.tailPrints
open Go Go.ChangeShapes Go.WideShapes Go.ChangeAt Go.RowKit Go.Proofs.Ytdooampgkiodjaa.P Go.Proofs.YtdooampgkiodjaaW.PrintWords
open Go.ChangeMaps (open_string shut_string)
set_option linter.unusedVariables false
set_option linter.unusedSimpArgs false
theorem own : ownKnob Try.prog.godebug = none := by kernel_rfl
theorem laidOut : laidOutB Try.prog = true := by kernel_rfl
set_option maxRecDepth 100000 in
theorem op3 : Opens.Opens Try.prog 3 (Kd.int .i64) (fun x_ => (Lit.int .i64 x_).wf = true) := Opens.Opens.int Try.underlying3 (by kernel_rfl)
set_option maxRecDepth 100000 in
theorem op23 : Opens.Opens Try.prog 23 (Kd.int .u64) (fun x_ => (Lit.int .u64 x_).wf = true) := Opens.Opens.int Try.underlying23 (by kernel_rfl)
set_option maxRecDepth 100000 in
theorem op9 : Opens.Opens Try.prog 9 Kd.string (fun x_ => x_.size ≤ maxLen) := Opens.Opens.string Try.underlying9 (by kernel_rfl)
set_option maxRecDepth 100000 in
theorem op4 : Opens.Opens Try.prog 4 Kd.bool (fun x_ => True) := Opens.Opens.bool Try.underlying4 (by kernel_rfl)
theorem cells25 : Try.prog.cellsOf 25 = 6 := by kernel_rfl
theorem cells3 : Try.prog.cellsOf 3 = 1 := by kernel_rfl
theorem cells23 : Try.prog.cellsOf 23 = 1 := by kernel_rfl
theorem cells9 : Try.prog.cellsOf 9 = 1 := by kernel_rfl
theorem cells4 : Try.prog.cellsOf 4 = 1 := by kernel_rfl
set_option maxRecDepth 100000 in
theorem op25 : Opens.Opens Try.prog 25 k25 (fun x_ => ((Lit.int .i64 x_.f0).wf = true) ∧ ((Lit.int .u64 x_.f1).wf = true) ∧ ((Lit.int .u64 x_.f2).wf = true) ∧ ((Lit.int .u64 x_.f3).wf = true) ∧ (x_.f4.size ≤ maxLen) ∧ (True)) := by
  refine ⟨cells25, fun {H enc w base spare held fuel cs x} h => ?_⟩
  obtain ⟨xs, n_, _, _, hl, hxl, hf⟩ := DataW.trod_struct Try.underlying25 h
  rw [cells25] at hl
  replace hxl : xs.length = 6 := hxl
  obtain ⟨v0, v1, v2, v3, v4, v5, rfl⟩ : ∃ v0 v1 v2 v3 v4 v5, cs = [v0, v1, v2, v3, v4, v5] := by
    match cs, hl with
    | [v0, v1, v2, v3, v4, v5], _ => exact ⟨v0, v1, v2, v3, v4, v5, rfl⟩
  have g0 := hf 0 _ rfl
  rw [List.getElem?_eq_getElem (by omega)] at g0
  (try simp only [List.getElem_toArray, List.getElem_cons_zero, List.getElem_cons_succ] at g0)
  rw [cells3] at g0
  replace g0 : DataW.trod enc Try.prog w base spare held n_ 3 [v0] = some xs[0] := g0
  obtain ⟨a0, k0_, o0⟩ := op3.get g0
  have g1 := hf 1 _ rfl
  rw [List.getElem?_eq_getElem (by omega)] at g1
  (try simp only [List.getElem_toArray, List.getElem_cons_zero, List.getElem_cons_succ] at g1)
  rw [cells23] at g1
  replace g1 : DataW.trod enc Try.prog w base spare held n_ 23 [v1] = some xs[1] := g1
  obtain ⟨a1, k1_, o1⟩ := op23.get g1
  have g2 := hf 2 _ rfl
  rw [List.getElem?_eq_getElem (by omega)] at g2
  (try simp only [List.getElem_toArray, List.getElem_cons_zero, List.getElem_cons_succ] at g2)
  rw [cells23] at g2
  replace g2 : DataW.trod enc Try.prog w base spare held n_ 23 [v2] = some xs[2] := g2
  obtain ⟨a2, k2_, o2⟩ := op23.get g2
  have g3 := hf 3 _ rfl
  rw [List.getElem?_eq_getElem (by omega)] at g3
  (try simp only [List.getElem_toArray, List.getElem_cons_zero, List.getElem_cons_succ] at g3)
  rw [cells23] at g3
  replace g3 : DataW.trod enc Try.prog w base spare held n_ 23 [v3] = some xs[3] := g3
  obtain ⟨a3, k3_, o3⟩ := op23.get g3
  have g4 := hf 4 _ rfl
  rw [List.getElem?_eq_getElem (by omega)] at g4
  (try simp only [List.getElem_toArray, List.getElem_cons_zero, List.getElem_cons_succ] at g4)
  rw [cells9] at g4
  replace g4 : DataW.trod enc Try.prog w base spare held n_ 9 [v4] = some xs[4] := g4
  obtain ⟨a4, k4_, o4⟩ := op9.get g4
  have g5 := hf 5 _ rfl
  rw [List.getElem?_eq_getElem (by omega)] at g5
  (try simp only [List.getElem_toArray, List.getElem_cons_zero, List.getElem_cons_succ] at g5)
  rw [cells4] at g5
  replace g5 : DataW.trod enc Try.prog w base spare held n_ 4 [v5] = some xs[5] := g5
  obtain ⟨a5, k5_, o5⟩ := op4.get g5
  exact ⟨⟨a0, a1, a2, a3, a4, a5⟩, ⟨[v0], [v1, v2, v3, v4, v5], rfl, k0_, ⟨[v1], [v2, v3, v4, v5], rfl, k1_, ⟨[v2], [v3, v4, v5], rfl, k2_, ⟨[v3], [v4, v5], rfl, k3_, ⟨[v4], [v5], rfl, k4_, k5_⟩⟩⟩⟩⟩, ⟨o0, o1, o2, o3, o4, o5⟩⟩
set_option maxRecDepth 100000 in
theorem lifted (os : Os) (started : os.Started) (H : Type) (enc : TypeId × Value → H) :
    ReturnsInHanded {} Try.checked os 6 .any (Rows.tailPrintsSpec.pre6 enc Try.prog Try.f6 Rows.tailPrintsRow.domain false) (Rows.tailPrintsSpec.post enc Try.prog Try.f6 false true false false) := by
  refine returnsInHanded_of_change_sized (C := Try.checked) own started (by kernel_rfl) Try.func6
    (ChangeSpec.witness6 (enc := enc) (C := Try.checked) false ⟨#[], #[.agg #[(.int .i64 0), (.int .u64 0), (.int .u64 0), (.int .u64 0), (.string ⟨#[]⟩), (.bool false)], .bool false], []⟩ 8 (by kernel_rfl) (by kernel_rfl) (by kernel_rfl) (by kernel_rfl)) ?_
  intro W base args ds gs before hval0 hW hcnd hsz0 _
  have hsz : (DataW.weightsEach Try.prog (Try.f6.params.toList ++ Rows.tailPrintsSpec.plain.varTypes Try.prog) (ds ++ gs)).all (· ≤ reachBytes) = true := hsz0
  have hval : ∀ (j : Nat) t v, Try.f6.params[j]? = some t → args[j]? = some v → Value.okWide Try.prog W .any base t v := hval0
  have hW' := hW
  obtain ⟨p, q, hA0, hV, rfl, hfz, hnd⟩ := hW
  have hA : DataW.TrodAll enc Try.prog W 0 (fun _ => true) true Try.f6.params.toList args.toList ds p := hA0
  rw [Try.params6] at hA hval hsz
  obtain ⟨v0, vs0, d0, ds0, p0, q0, hargs, rfl, rfl, h0, r0⟩ := trodAll_cons hA
  obtain ⟨v1, vs1, d1, ds1, p1, q1, rfl, rfl, rfl, h1, r1⟩ := trodAll_cons r0
  obtain ⟨rfl, rfl, rfl⟩ := trodAll_nil r1
  obtain rfl : args = #[v0, v1] := by cases args; simp_all
  obtain ⟨rfl, rfl⟩ := trodVars_none hV
  obtain ⟨cs0, rfl, _⟩ := okWide_struct Try.underlying25 (hval 0 25 v0 rfl rfl)
  have k0 := h0
  have lt0 : ∀ x ∈ p0, x.block < W.heap.size := by obtain ⟨m, hm⟩ := k0; exact DataW.trod_lt m _ _ _ hm
  have hh0 := h0
  obtain ⟨m0_, hm0_⟩ := hh0
  obtain ⟨a0, hK0, hok0⟩ := op25.get hm0_
  obtain ⟨a1, rfl, rfl, rfl⟩ := open_bool Try.underlying4 (hval 1 4 v1 rfl rfl) h1
  clear hA0 hval0 hsz0 hsz
  refine (Walk.TailPrints a0 cs0 a1 W hK0 hok0).mono fun e W' ⟨he, bel⟩ => ?_
  subst he
  exact ⟨_, rfl, _, _, _, [], _, [], hW', trodAll_mk1 (shut_bool Try.underlying4 _), (trodAll_cons_mk (Below.trod laidOut (by kernel_rfl) (of_decide_eq_true (by kernel_rfl)) k0 bel lt0) (trodAll_cons_mk (shut_bool Try.underlying4 _) trodAll_mk0)), rfl, bel.frame _, fun h => by cases h⟩
theorem over : Rows.tailPrintsRow.holds Try.pinned (OpenSpec.ofChange Rows.tailPrintsSpec) :=
  OpenClaim.holds_of_wide 6 Try.f6 rfl rfl rfl rfl rfl rfl rfl ⟨rfl, rfl, rfl, rfl, rfl⟩ rfl rfl rfl rfl rfl (by kernel_rfl) Try.func6 (by kernel_rfl)
    (of_decide_eq_true (by kernel_rfl)) (by unfold Func.isWrapper; first | (rw [if_pos (by decide +kernel)]; kernel_rfl) | (rw [if_neg (by decide +kernel)]; exact ⟨rfl, rfl⟩))
    (fun os started H enc _ => lifted os started H enc)
theorem proved : Rows.TailPrintsSaid := over
end Go.Proofs.Ytdooampgkiodjaa.tailPrints
namespace Go.Proofs.Ytdooampgkiodjaa
theorem tailPrints_holds : Rows.TailPrintsSaid := tailPrints.proved
end Go.Proofs.Ytdooampgkiodjaa
