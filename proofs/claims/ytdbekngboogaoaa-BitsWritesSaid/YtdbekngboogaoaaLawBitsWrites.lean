/- BitsWrites: the row, out of its walk (YtdbekngboogaoaaWalkBitsWrites). No condition beside the statement's own. Written by wip/rowgen.py. -/
import Derived.Test.YtdbekngboogaoaaRows
import Derived.Test.YtdbekngboogaoaaWalkBitsWrites
import Derived.Test.YtdbekngboogaoaaOpens
import Derived.Test.YtdbekngboogaoaaWSized
import Derived.WalkKit
import Derived.ProofKit
import Derived.OpenShut
import Derived.ShutString
import Derived.ChangeOld
import Derived.Below
import Derived.SizedLaws
import Derived.SliceStrings
namespace Go.Proofs.Ytdbekngboogaoaa.bitsWrites
open Go Go.ChangeShapes Go.WideShapes Go.ChangeAt Go.RowKit Go.Proofs.Ytdbekngboogaoaa.P Go.Proofs.YtdbekngboogaoaaW.PrintWords
open Go.ChangeMaps (open_string shut_string)
set_option linter.unusedVariables false
set_option linter.unusedSimpArgs false
theorem own : ownKnob Try.prog.godebug = none := by kernel_rfl
theorem laidOut : laidOutB Try.prog = true := by kernel_rfl
set_option maxRecDepth 100000 in
theorem op3 : Opens.Opens Try.prog 3 (Kd.int .i64) (fun x_ => (Lit.int .i64 x_).wf = true) := Opens.Opens.int Try.underlying3 (by kernel_rfl)
set_option maxRecDepth 100000 in
theorem op22 : Opens.Opens Try.prog 22 (Kd.int .u32) (fun x_ => (Lit.int .u32 x_).wf = true) := Opens.Opens.int Try.underlying22 (by kernel_rfl)
set_option maxRecDepth 100000 in
theorem op9 : Opens.Opens Try.prog 9 Kd.string (fun x_ => x_.size ≤ maxLen) := Opens.Opens.string Try.underlying9 (by kernel_rfl)
theorem cells36 : Try.prog.cellsOf 36 = 4 := by kernel_rfl
theorem cells3 : Try.prog.cellsOf 3 = 1 := by kernel_rfl
theorem cells22 : Try.prog.cellsOf 22 = 1 := by kernel_rfl
theorem cells9 : Try.prog.cellsOf 9 = 1 := by kernel_rfl
set_option maxRecDepth 100000 in
theorem op36 : Opens.Opens Try.prog 36 k36 (fun x_ => ((Lit.int .i64 x_.f0).wf = true) ∧ ((Lit.int .i64 x_.f1).wf = true) ∧ ((Lit.int .u32 x_.f2).wf = true) ∧ (x_.f3.size ≤ maxLen)) := by
  refine ⟨cells36, fun {H enc w base spare held fuel cs x} h => ?_⟩
  obtain ⟨xs, n_, _, _, hl, hxl, hf⟩ := DataW.trod_struct Try.underlying36 h
  rw [cells36] at hl
  replace hxl : xs.length = 4 := hxl
  obtain ⟨v0, v1, v2, v3, rfl⟩ : ∃ v0 v1 v2 v3, cs = [v0, v1, v2, v3] := by
    match cs, hl with
    | [v0, v1, v2, v3], _ => exact ⟨v0, v1, v2, v3, rfl⟩
  have g0 := hf 0 _ rfl
  rw [List.getElem?_eq_getElem (by omega)] at g0
  (try simp only [List.getElem_toArray, List.getElem_cons_zero, List.getElem_cons_succ] at g0)
  rw [cells3] at g0
  replace g0 : DataW.trod enc Try.prog w base spare held n_ 3 [v0] = some xs[0] := g0
  obtain ⟨a0, k0_, o0⟩ := op3.get g0
  have g1 := hf 1 _ rfl
  rw [List.getElem?_eq_getElem (by omega)] at g1
  (try simp only [List.getElem_toArray, List.getElem_cons_zero, List.getElem_cons_succ] at g1)
  rw [cells3] at g1
  replace g1 : DataW.trod enc Try.prog w base spare held n_ 3 [v1] = some xs[1] := g1
  obtain ⟨a1, k1_, o1⟩ := op3.get g1
  have g2 := hf 2 _ rfl
  rw [List.getElem?_eq_getElem (by omega)] at g2
  (try simp only [List.getElem_toArray, List.getElem_cons_zero, List.getElem_cons_succ] at g2)
  rw [cells22] at g2
  replace g2 : DataW.trod enc Try.prog w base spare held n_ 22 [v2] = some xs[2] := g2
  obtain ⟨a2, k2_, o2⟩ := op22.get g2
  have g3 := hf 3 _ rfl
  rw [List.getElem?_eq_getElem (by omega)] at g3
  (try simp only [List.getElem_toArray, List.getElem_cons_zero, List.getElem_cons_succ] at g3)
  rw [cells9] at g3
  replace g3 : DataW.trod enc Try.prog w base spare held n_ 9 [v3] = some xs[3] := g3
  obtain ⟨a3, k3_, o3⟩ := op9.get g3
  exact ⟨⟨a0, a1, a2, a3⟩, ⟨[v0], [v1, v2, v3], rfl, k0_, ⟨[v1], [v2, v3], rfl, k1_, ⟨[v2], [v3], rfl, k2_, k3_⟩⟩⟩, ⟨o0, o1, o2, o3⟩⟩
set_option maxRecDepth 100000 in
theorem lifted (os : Os) (started : os.Started) (H : Type) (enc : TypeId × Value → H) :
    ReturnsInHanded {} Try.checked os 4 .any (Rows.bitsWritesSpec.pre6 enc Try.prog Try.f4 Rows.bitsWritesRow.domain false) (Rows.bitsWritesSpec.post enc Try.prog Try.f4 false true false false) := by
  refine returnsInHanded_of_change_sized (C := Try.checked) own started (by kernel_rfl) Try.func4
    (ChangeSpec.witness6 (enc := enc) (C := Try.checked) false ⟨#[], #[.slice none 0 0, .int .u32 0, .int .i64 0], []⟩ 8 (by kernel_rfl) (by kernel_rfl) (by kernel_rfl) (by kernel_rfl)) ?_
  intro W base args ds gs before hval0 hW hcnd hsz0 _
  have hsz : (DataW.weightsEach Try.prog (Try.f4.params.toList ++ Rows.bitsWritesSpec.plain.varTypes Try.prog) (ds ++ gs)).all (· ≤ reachBytes) = true := hsz0
  have hval : ∀ (j : Nat) t v, Try.f4.params[j]? = some t → args[j]? = some v → Value.okWide Try.prog W .any base t v := hval0
  have hW' := hW
  obtain ⟨p, q, hA0, hV, rfl, hfz, hnd⟩ := hW
  have hA : DataW.TrodAll enc Try.prog W 0 (fun _ => true) true Try.f4.params.toList args.toList ds p := hA0
  rw [Try.params4] at hA hval hsz
  obtain ⟨v0, vs0, d0, ds0, p0, q0, hargs, rfl, rfl, h0, r0⟩ := trodAll_cons hA
  obtain ⟨v1, vs1, d1, ds1, p1, q1, rfl, rfl, rfl, h1, r1⟩ := trodAll_cons r0
  obtain ⟨v2, vs2, d2, ds2, p2, q2, rfl, rfl, rfl, h2, r2⟩ := trodAll_cons r1
  obtain ⟨rfl, rfl, rfl⟩ := trodAll_nil r2
  obtain rfl : args = #[v0, v1, v2] := by cases args; simp_all
  obtain ⟨rfl, rfl⟩ := trodVars_none hV
  obtain ⟨a0, len0, cap0, rfl⟩ := okWide_slice Try.underlying27 (hval 0 27 v0 rfl rfl)
  have k0 := h0
  have lt0 : ∀ x ∈ p0, x.block < W.heap.size := by obtain ⟨m, hm⟩ := k0; exact DataW.trod_lt m _ _ _ hm
  obtain ⟨l0, rfl, hl0, hC0, hok0, hz0⟩ := Opens.open_row Try.underlying27 op36 hsz (j := 0) rfl rfl h0
  rw [show Try.prog.bytesOf 36 = 40 from by kernel_rfl] at hz0
  obtain ⟨a1, rfl, rfl, rfl, w1⟩ := open_int Try.underlying22 (hval 1 22 v1 rfl rfl) h1
  obtain ⟨a2, rfl, rfl, rfl, w2⟩ := open_int Try.underlying3 (hval 2 3 v2 rfl rfl) h2
  clear hA0 hval0 hsz0 hsz
  refine (Walk.BitsWrites a0 cap0 l0 a1 a2 W hl0 hC0 hok0 hz0 w1 w2).mono fun e W' ⟨he, bel⟩ => ?_
  subst he
  exact ⟨_, rfl, _, _, _, [], _, [], hW', trodAll_mk1 (shut_bool Try.underlying4 _), (trodAll_cons_mk (Below.trod laidOut (by kernel_rfl) (of_decide_eq_true (by kernel_rfl)) k0 bel lt0) (trodAll_cons_mk (shut_int Try.underlying22 w1) (trodAll_cons_mk (shut_int Try.underlying3 w2) trodAll_mk0))), rfl, bel.frame _, fun h => by cases h⟩
theorem over : Rows.bitsWritesRow.holds Try.pinned (OpenSpec.ofChange Rows.bitsWritesSpec) :=
  OpenClaim.holds_of_wide 4 Try.f4 rfl rfl rfl rfl rfl rfl rfl ⟨rfl, rfl, rfl, rfl, rfl⟩ rfl rfl rfl rfl rfl (by kernel_rfl) Try.func4 (by kernel_rfl)
    (of_decide_eq_true (by kernel_rfl)) (by unfold Func.isWrapper; first | (rw [if_pos (by decide +kernel)]; kernel_rfl) | (rw [if_neg (by decide +kernel)]; exact ⟨rfl, rfl⟩))
    (fun os started H enc _ => lifted os started H enc)
theorem proved : Rows.BitsWritesSaid := over
end Go.Proofs.Ytdbekngboogaoaa.bitsWrites
namespace Go.Proofs.Ytdbekngboogaoaa
theorem bitsWrites_holds : Rows.BitsWritesSaid := bitsWrites.proved
end Go.Proofs.Ytdbekngboogaoaa
