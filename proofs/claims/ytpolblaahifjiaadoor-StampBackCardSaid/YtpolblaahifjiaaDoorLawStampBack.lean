/- StampBack: the row, out of its walk (YtpolblaahifjiaaDoorWalkStampBack). No condition beside the statement's own. Written by wip/rowgen.py. -/
import Derived.Test.YtpolblaahifjiaaDoorTie
import Derived.Test.YtpolblaahifjiaaDoorCards
import Derived.Test.YtpolblaahifjiaaDoorLaid
import Derived.Lay
import Derived.MakeChecks
import Derived.SevenTiedAt
import Derived.Test.YtpolblaahifjiaaDoorRows
import Derived.Test.YtpolblaahifjiaaDoorWalkStampBack
import Derived.Test.YtpolblaahifjiaaDoorOpens
import Derived.Test.YtpolblaahifjiaaDoorWSized
import Derived.WalkKit
import Derived.ProofKit
import Derived.OpenShut
import Derived.ShutString
import Derived.ChangeOld
import Derived.Below
import Derived.SizedLaws
import Derived.SliceStrings
namespace Go.Proofs.YtpolblaahifjiaaDoor.stampBack
open Go Go.ChangeShapes Go.WideShapes Go.ChangeAt Go.RowKit Go.Proofs.YtpolblaahifjiaaDoor.P Go.Proofs.YtpolblaahifjiaaDoorW.PrintWords
open Go.ChangeMaps (open_string shut_string)
set_option linter.unusedVariables false
set_option linter.unusedSimpArgs false
theorem own : ownKnob Tryd.prog.godebug = none := by kernel_rfl
theorem laidOut : laidOutB Tryd.prog = true := by kernel_rfl
set_option maxRecDepth 100000 in
theorem op3 : Opens.Opens Tryd.prog 3 (Kd.int .i64) (fun x_ => (Lit.int .i64 x_).wf = true) := Opens.Opens.int Tryd.underlying3 (by kernel_rfl)
theorem cells24 : Tryd.prog.cellsOf 24 = 6 := by kernel_rfl
theorem cells3 : Tryd.prog.cellsOf 3 = 1 := by kernel_rfl
set_option maxRecDepth 100000 in
theorem op24 : Opens.Opens Tryd.prog 24 k24 (fun x_ => ((Lit.int .i64 x_.f0).wf = true) ∧ ((Lit.int .i64 x_.f1).wf = true) ∧ ((Lit.int .i64 x_.f2).wf = true) ∧ ((Lit.int .i64 x_.f3).wf = true) ∧ ((Lit.int .i64 x_.f4).wf = true) ∧ ((Lit.int .i64 x_.f5).wf = true)) := by
  refine ⟨cells24, fun {H enc w base spare held fuel cs x} h => ?_⟩
  obtain ⟨xs, n_, _, _, hl, hxl, hf⟩ := DataW.trod_struct Tryd.underlying24 h
  rw [cells24] at hl
  replace hxl : xs.length = 6 := hxl
  obtain ⟨v0, v1, v2, v3, v4, v5, rfl⟩ : ∃ v0 v1 v2 v3 v4 v5, cs = [v0, v1, v2, v3, v4, v5] := by
    match cs, hl with
    | [v0, v1, v2, v3, v4, v5], _ => exact ⟨v0, v1, v2, v3, v4, v5, rfl⟩
  have g0 := hf 0 _ rfl
  rw [List.getElem?_eq_getElem (by omega)] at g0
  (try simp only [List.getElem_toArray, List.getElem_cons_zero, List.getElem_cons_succ] at g0)
  rw [cells3] at g0
  replace g0 : DataW.trod enc Tryd.prog w base spare held n_ 3 [v0] = some xs[0] := g0
  obtain ⟨a0, k0_, o0⟩ := op3.get g0
  have g1 := hf 1 _ rfl
  rw [List.getElem?_eq_getElem (by omega)] at g1
  (try simp only [List.getElem_toArray, List.getElem_cons_zero, List.getElem_cons_succ] at g1)
  rw [cells3] at g1
  replace g1 : DataW.trod enc Tryd.prog w base spare held n_ 3 [v1] = some xs[1] := g1
  obtain ⟨a1, k1_, o1⟩ := op3.get g1
  have g2 := hf 2 _ rfl
  rw [List.getElem?_eq_getElem (by omega)] at g2
  (try simp only [List.getElem_toArray, List.getElem_cons_zero, List.getElem_cons_succ] at g2)
  rw [cells3] at g2
  replace g2 : DataW.trod enc Tryd.prog w base spare held n_ 3 [v2] = some xs[2] := g2
  obtain ⟨a2, k2_, o2⟩ := op3.get g2
  have g3 := hf 3 _ rfl
  rw [List.getElem?_eq_getElem (by omega)] at g3
  (try simp only [List.getElem_toArray, List.getElem_cons_zero, List.getElem_cons_succ] at g3)
  rw [cells3] at g3
  replace g3 : DataW.trod enc Tryd.prog w base spare held n_ 3 [v3] = some xs[3] := g3
  obtain ⟨a3, k3_, o3⟩ := op3.get g3
  have g4 := hf 4 _ rfl
  rw [List.getElem?_eq_getElem (by omega)] at g4
  (try simp only [List.getElem_toArray, List.getElem_cons_zero, List.getElem_cons_succ] at g4)
  rw [cells3] at g4
  replace g4 : DataW.trod enc Tryd.prog w base spare held n_ 3 [v4] = some xs[4] := g4
  obtain ⟨a4, k4_, o4⟩ := op3.get g4
  have g5 := hf 5 _ rfl
  rw [List.getElem?_eq_getElem (by omega)] at g5
  (try simp only [List.getElem_toArray, List.getElem_cons_zero, List.getElem_cons_succ] at g5)
  rw [cells3] at g5
  replace g5 : DataW.trod enc Tryd.prog w base spare held n_ 3 [v5] = some xs[5] := g5
  obtain ⟨a5, k5_, o5⟩ := op3.get g5
  exact ⟨⟨a0, a1, a2, a3, a4, a5⟩, ⟨[v0], [v1, v2, v3, v4, v5], rfl, k0_, ⟨[v1], [v2, v3, v4, v5], rfl, k1_, ⟨[v2], [v3, v4, v5], rfl, k2_, ⟨[v3], [v4, v5], rfl, k3_, ⟨[v4], [v5], rfl, k4_, k5_⟩⟩⟩⟩⟩, ⟨o0, o1, o2, o3, o4, o5⟩⟩
set_option maxRecDepth 100000 in
theorem lifted (os : Os) (started : os.Started) (H : Type) (enc : TypeId × Value → H) :
    ReturnsInHanded {} Tryd.checked os 6 .any (fun w args => (Rows.stampBackSpec.pre enc Tryd.prog Tryd.f6 [] false w args ∧ laidMetH Tryd.prog Rows.stampBackRow.laid w) ∧ sizedMet enc Tryd.prog Tryd.f6 (OpenSpec.ofChange Rows.stampBackSpec) false w args) (Rows.stampBackSpec.post enc Tryd.prog Tryd.f6 false true false false) := by
  refine returnsInHanded_of_change_and (C := Tryd.checked) (X := fun w _ => laidMetH Tryd.prog Rows.stampBackRow.laid w) (fun _ _ _ hh h => h.of_heap hh) own started (by kernel_rfl) Tryd.func6
    (ChangeSpec.witness_shaped (enc := enc) (C := Tryd.checked) (os := os) (X := fun w _ => laidMetH Tryd.prog Rows.stampBackRow.laid w) false (World.laidAll Tryd.prog os Rows.stampBackRow.laid) #[.int .i64 0, .agg #[(.int .i64 0), (.int .i64 0), (.int .i64 0), (.int .i64 0), (.int .i64 0), (.int .i64 0)], .int .u32 0] 8 (World.laidAll_os _ _ _)
      (World.shaped_of_ZipB (by kernel_rfl) (by kernel_rfl)) (by kernel_rfl) (by kernel_rfl) (by kernel_rfl)
      (by rw [MakeChecks.laidMetH_plain _ _ _ (by kernel_rfl)]; exact laidMet_laidAll _ (by kernel_rfl) (by kernel_rfl))) ?_
  intro W base args ds gs before hval0 hW hcnd hsz0 hL _
  rw [MakeChecks.laidMetH_plain _ _ _ (by kernel_rfl)] at hL
  have hsz : (DataW.weightsEach Tryd.prog (Tryd.f6.params.toList ++ Rows.stampBackSpec.plain.varTypes Tryd.prog) (ds ++ gs)).all (· ≤ reachBytes) = true := hsz0
  have hval : ∀ (j : Nat) t v, Tryd.f6.params[j]? = some t → args[j]? = some v → Value.okWide Tryd.prog W .any base t v := hval0
  have hW' := hW
  obtain ⟨p, q, hA0, hV, rfl, hfz, hnd⟩ := hW
  have hA : DataW.TrodAll enc Tryd.prog W 0 (fun _ => true) true Tryd.f6.params.toList args.toList ds p := hA0
  rw [Tryd.params6] at hA hval hsz
  obtain ⟨v0, vs0, d0, ds0, p0, q0, hargs, rfl, rfl, h0, r0⟩ := trodAll_cons hA
  obtain ⟨v1, vs1, d1, ds1, p1, q1, rfl, rfl, rfl, h1, r1⟩ := trodAll_cons r0
  obtain ⟨v2, vs2, d2, ds2, p2, q2, rfl, rfl, rfl, h2, r2⟩ := trodAll_cons r1
  obtain ⟨rfl, rfl, rfl⟩ := trodAll_nil r2
  obtain rfl : args = #[v0, v1, v2] := by cases args; simp_all
  obtain ⟨rfl, rfl⟩ := trodVars_none hV
  obtain ⟨a0, rfl, rfl, rfl, w0⟩ := open_int Tryd.underlying2 (hval 0 2 v0 rfl rfl) h0
  obtain ⟨cs1, rfl, _⟩ := okWide_struct Tryd.underlying24 (hval 1 24 v1 rfl rfl)
  have k1 := h1
  have lt1 : ∀ x ∈ p1, x.block < W.heap.size := by obtain ⟨m, hm⟩ := k1; exact DataW.trod_lt m _ _ _ hm
  have hh1 := h1
  obtain ⟨m1_, hm1_⟩ := hh1
  obtain ⟨a1, hK1, hok1⟩ := op24.get hm1_
  obtain ⟨a2, rfl, rfl, rfl, w2⟩ := open_int Tryd.underlying31 (hval 2 31 v2 rfl rfl) h2
  clear hA0 hval0 hsz0 hsz
  refine (Walk.StampBack a0 a1 cs1 a2 W w0 hK1 hok1 w2 (Fmt.tab_of_laid hL)).mono fun e W' ⟨he, bel⟩ => ?_
  subst he
  exact ⟨_, rfl, _, _, _, [], _, [], hW', trodAll_mk1 (shut_bool Tryd.underlying4 _), (trodAll_cons_mk (shut_int Tryd.underlying2 w0) (trodAll_cons_mk (Below.trod laidOut (by kernel_rfl) (of_decide_eq_true (by kernel_rfl)) k1 bel lt1) (trodAll_cons_mk (shut_int Tryd.underlying31 w2) trodAll_mk0))), rfl, bel.frame _, fun h => by cases h⟩
theorem over : Rows.stampBackRow.holds Tryd.pinned (OpenSpec.ofChange Rows.stampBackSpec) :=
  OpenClaim.holds_of_wide 6 Tryd.f6 rfl rfl rfl rfl rfl rfl rfl ⟨rfl, rfl, rfl, rfl, rfl⟩ rfl rfl rfl rfl rfl (by kernel_rfl) Tryd.func6 (by kernel_rfl)
    (of_decide_eq_true (by kernel_rfl)) (by unfold Func.isWrapper; first | (rw [if_pos (by decide +kernel)]; kernel_rfl) | (rw [if_neg (by decide +kernel)]; exact ⟨rfl, rfl⟩))
    (fun os started H enc _ => lifted os started H enc)
theorem card : Rows.StampBackCardSaid :=
  Claim7.holds_tied_plain_at .later [] [.data, .data, .data] true (true, "75167db9cd9824a812c0c2a90949a2caa9554ce45672dda8edf809baa176cc3e") false over (fun _ h => by cases h) (by kernel_rfl) (fun _ h => by cases h) stampBack_row_tie rfl ⟨rfl, rfl⟩ (by kernel_rfl) rfl
    (fun f fn hf hfn => by
      obtain rfl : f = 6 := Option.some.inj ((show Tryd.prog.funcNamed "portmanteau/portmanteaulaw12.StampBack" = some 6 by kernel_rfl).symm.trans hf) |>.symm
      obtain rfl : fn = Tryd.f6 := (Option.some.inj (Tryd.func6.symm.trans hfn)).symm
      exact ⟨by kernel_rfl, fun j t ht => by
        rw [Tryd.params6] at ht
        have hm : t ∈ [2, 24, 31] := by simpa using Array.mem_of_getElem? ht
        have hall : ([2, 24, 31].all fun u => !Tryd.prog.wantsStandIn u) = true := by kernel_rfl
        exact (show Tryd.prog.wantsStandIn t = false by simpa using List.all_eq_true.1 hall t hm)⟩)
    (by kernel_rfl)
end Go.Proofs.YtpolblaahifjiaaDoor.stampBack
namespace Go.Proofs.YtpolblaahifjiaaDoor
theorem stampBack_holds : Rows.StampBackCardSaid := stampBack.card
end Go.Proofs.YtpolblaahifjiaaDoor
