/- ExtraDoes: the row, out of its walk (YtdlcihbfdbdbbaaWalkExtraDoes). No condition beside the statement's own. Written by wip/rowgen.py. -/
import Derived.Test.YtdlcihbfdbdbbaaRows
import Derived.Test.YtdlcihbfdbdbbaaMg2
import Derived.Test.YtdlcihbfdbdbbaaMg1
import Derived.Test.YtdlcihbfdbdbbaaWSized
import Derived.WalkKit
import Derived.ProofKit
import Derived.OpenShut
import Derived.ShutString
import Derived.ChangeOld
import Derived.Below
import Derived.SizedLaws
import Derived.SliceStrings
namespace Go.Proofs.Ytdlcihbfdbdbbaa.extraDoes
open Go Go.ChangeShapes Go.WideShapes Go.ChangeAt Go.RowKit Go.Proofs.Ytdlcihbfdbdbbaa.P Go.Proofs.YtdlcihbfdbdbbaaW.PrintWords
open Go.ChangeMaps (open_string shut_string)
set_option linter.unusedVariables false
set_option linter.unusedSimpArgs false
theorem own : ownKnob Try.prog.godebug = none := by kernel_rfl
theorem laidOut : laidOutB Try.prog = true := by kernel_rfl
set_option maxRecDepth 100000 in
theorem op36 : Opens.Opens Try.prog 36 (Kd.int .u16) (fun x_ => (Lit.int .u16 x_).wf = true) := Opens.Opens.int Try.underlying36 (by kernel_rfl)
set_option maxRecDepth 100000 in
theorem op9 : Opens.Opens Try.prog 9 Kd.string (fun x_ => x_.size ≤ maxLen) := Opens.Opens.string Try.underlying9 (by kernel_rfl)
theorem cells38 : Try.prog.cellsOf 38 = 2 := by kernel_rfl
theorem cells36 : Try.prog.cellsOf 36 = 1 := by kernel_rfl
theorem cells9 : Try.prog.cellsOf 9 = 1 := by kernel_rfl
set_option maxRecDepth 100000 in
theorem op38 : Opens.Opens Try.prog 38 k38 (fun x_ => ((Lit.int .u16 x_.f0).wf = true) ∧ (x_.f1.size ≤ maxLen)) := by
  refine ⟨cells38, fun {H enc w base spare held fuel cs x} h => ?_⟩
  obtain ⟨xs, n_, _, _, hl, hxl, hf⟩ := DataW.trod_struct Try.underlying38 h
  rw [cells38] at hl
  replace hxl : xs.length = 2 := hxl
  obtain ⟨v0, v1, rfl⟩ : ∃ v0 v1, cs = [v0, v1] := by
    match cs, hl with
    | [v0, v1], _ => exact ⟨v0, v1, rfl⟩
  have g0 := hf 0 _ rfl
  rw [List.getElem?_eq_getElem (by omega)] at g0
  (try simp only [List.getElem_toArray, List.getElem_cons_zero, List.getElem_cons_succ] at g0)
  rw [cells36] at g0
  replace g0 : DataW.trod enc Try.prog w base spare held n_ 36 [v0] = some xs[0] := g0
  obtain ⟨a0, k0_, o0⟩ := op36.get g0
  have g1 := hf 1 _ rfl
  rw [List.getElem?_eq_getElem (by omega)] at g1
  (try simp only [List.getElem_toArray, List.getElem_cons_zero, List.getElem_cons_succ] at g1)
  rw [cells9] at g1
  replace g1 : DataW.trod enc Try.prog w base spare held n_ 9 [v1] = some xs[1] := g1
  obtain ⟨a1, k1_, o1⟩ := op9.get g1
  exact ⟨⟨a0, a1⟩, ⟨[v0], [v1], rfl, k0_, k1_⟩, ⟨o0, o1⟩⟩
set_option maxRecDepth 100000 in
theorem lifted (os : Os) (started : os.Started) (H : Type) (enc : TypeId × Value → H) :
    ReturnsInHanded {} Try.checked os 4 .any (Rows.extraDoesSpec.pre6 enc Try.prog Try.f4 Rows.extraDoesRow.domain false) (Rows.extraDoesSpec.post enc Try.prog Try.f4 false true false false) := by
  refine returnsInHanded_of_change_sized (C := Try.checked) own started (by kernel_rfl) Try.func4
    (ChangeSpec.witness6 (enc := enc) (C := Try.checked) false ⟨#[], #[.slice none 0 0, .agg #[(.int .u16 0), (.string ⟨#[]⟩)], .slice none 0 0, .int .u16 0], []⟩ 8 (by kernel_rfl) (by kernel_rfl) (by kernel_rfl) (by kernel_rfl)) ?_
  intro W base args ds gs before hval0 hW hcnd hsz0 _
  have hsz : (DataW.weightsEach Try.prog (Try.f4.params.toList ++ Rows.extraDoesSpec.plain.varTypes Try.prog) (ds ++ gs)).all (· ≤ reachBytes) = true := hsz0
  have hval : ∀ (j : Nat) t v, Try.f4.params[j]? = some t → args[j]? = some v → Value.okWide Try.prog W .any base t v := hval0
  have hW' := hW
  obtain ⟨p, q, hA0, hV, rfl, hfz, hnd⟩ := hW
  have hA : DataW.TrodAll enc Try.prog W 0 (fun _ => true) true Try.f4.params.toList args.toList ds p := hA0
  rw [Try.params4] at hA hval hsz
  obtain ⟨v0, vs0, d0, ds0, p0, q0, hargs, rfl, rfl, h0, r0⟩ := trodAll_cons hA
  obtain ⟨v1, vs1, d1, ds1, p1, q1, rfl, rfl, rfl, h1, r1⟩ := trodAll_cons r0
  obtain ⟨v2, vs2, d2, ds2, p2, q2, rfl, rfl, rfl, h2, r2⟩ := trodAll_cons r1
  obtain ⟨v3, vs3, d3, ds3, p3, q3, rfl, rfl, rfl, h3, r3⟩ := trodAll_cons r2
  obtain ⟨rfl, rfl, rfl⟩ := trodAll_nil r3
  obtain rfl : args = #[v0, v1, v2, v3] := by cases args; simp_all
  obtain ⟨rfl, rfl⟩ := trodVars_none hV
  obtain ⟨a0, len0, cap0, rfl⟩ := okWide_slice Try.underlying22 (hval 0 22 v0 rfl rfl)
  have k0 := h0
  have lt0 : ∀ x ∈ p0, x.block < W.heap.size := by obtain ⟨m, hm⟩ := k0; exact DataW.trod_lt m _ _ _ hm
  obtain ⟨l0, rfl, hl0, hC0, hok0, hz0⟩ := Opens.open_row Try.underlying22 op38 hsz (j := 0) rfl rfl h0
  rw [show Try.prog.bytesOf 38 = 24 from by kernel_rfl] at hz0
  obtain ⟨cs1, rfl, _⟩ := okWide_struct Try.underlying38 (hval 1 38 v1 rfl rfl)
  have k1 := h1
  have lt1 : ∀ x ∈ p1, x.block < W.heap.size := by obtain ⟨m, hm⟩ := k1; exact DataW.trod_lt m _ _ _ hm
  have hh1 := h1
  obtain ⟨m1_, hm1_⟩ := hh1
  obtain ⟨a1, hK1, hok1⟩ := op38.get hm1_
  obtain ⟨a2, len2, cap2, rfl⟩ := okWide_slice Try.underlying39 (hval 2 39 v2 rfl rfl)
  have k2 := h2
  have lt2 : ∀ x ∈ p2, x.block < W.heap.size := by obtain ⟨m, hm⟩ := k2; exact DataW.trod_lt m _ _ _ hm
  obtain ⟨l2, rfl, hl2, hC2, hok2, hz2⟩ := Opens.open_row Try.underlying39 op36 hsz (j := 2) rfl rfl h2
  rw [show Try.prog.bytesOf 36 = 2 from by kernel_rfl] at hz2
  obtain ⟨a3, rfl, rfl, rfl, w3⟩ := open_int Try.underlying36 (hval 3 36 v3 rfl rfl) h3
  clear hA0 hval0 hsz0 hsz
  refine (Walk.ExtraDoes a0 cap0 l0 a1 cs1 a2 cap2 l2 a3 W hl0 hC0 hok0 hz0 hK1 hok1 hl2 hC2 hok2 hz2 w3).mono fun e W' ⟨he, bel⟩ => ?_
  subst he
  exact ⟨_, rfl, _, _, _, [], _, [], hW', trodAll_mk1 (shut_bool Try.underlying4 _), (trodAll_cons_mk (Below.trod laidOut (by kernel_rfl) (of_decide_eq_true (by kernel_rfl)) k0 bel lt0) (trodAll_cons_mk (Below.trod laidOut (by kernel_rfl) (of_decide_eq_true (by kernel_rfl)) k1 bel lt1) (trodAll_cons_mk (Below.trod laidOut (by kernel_rfl) (of_decide_eq_true (by kernel_rfl)) k2 bel lt2) (trodAll_cons_mk (shut_int Try.underlying36 w3) trodAll_mk0)))), rfl, bel.frame _, fun h => by cases h⟩
theorem over : Rows.extraDoesRow.holds Try.pinned (OpenSpec.ofChange Rows.extraDoesSpec) :=
  OpenClaim.holds_of_wide 4 Try.f4 rfl rfl rfl rfl rfl rfl rfl ⟨rfl, rfl, rfl, rfl, rfl⟩ rfl rfl rfl rfl rfl (by kernel_rfl) Try.func4 (by kernel_rfl)
    (of_decide_eq_true (by kernel_rfl)) (by unfold Func.isWrapper; first | (rw [if_pos (by decide +kernel)]; kernel_rfl) | (rw [if_neg (by decide +kernel)]; exact ⟨rfl, rfl⟩))
    (fun os started H enc _ => lifted os started H enc)
theorem proved : Rows.ExtraDoesSaid := over
end Go.Proofs.Ytdlcihbfdbdbbaa.extraDoes
namespace Go.Proofs.Ytdlcihbfdbdbbaa
theorem extraDoes_holds : Rows.ExtraDoesSaid := extraDoes.proved
end Go.Proofs.Ytdlcihbfdbdbbaa
