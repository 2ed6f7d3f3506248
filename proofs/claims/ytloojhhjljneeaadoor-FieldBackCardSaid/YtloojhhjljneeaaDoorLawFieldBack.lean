/- FieldBack: the row, out of its walk (YtloojhhjljneeaaDoorWalkFieldBack). No condition beside the statement's own. Written by wip/rowgen.py. -/
import Derived.Test.YtloojhhjljneeaaDoorTie
import Derived.Test.YtloojhhjljneeaaDoorCards
import Derived.Test.YtloojhhjljneeaaDoorMg1
import Derived.Lay
import Derived.MakeChecks
import Derived.SevenTiedAt
import Derived.Test.YtloojhhjljneeaaDoorRows
import Derived.Test.YtloojhhjljneeaaDoorWalkFieldBack
import Derived.Test.YtloojhhjljneeaaDoorMg2
import Derived.Test.YtloojhhjljneeaaDoorWSized
import Derived.WalkKit
import Derived.ProofKit
import Derived.OpenShut
import Derived.ShutString
import Derived.ChangeOld
import Derived.Below
import Derived.SizedLaws
import Derived.SliceStrings
namespace Go.Proofs.YtloojhhjljneeaaDoor.fieldBack
open Go Go.ChangeShapes Go.WideShapes Go.ChangeAt Go.RowKit Go.Proofs.YtloojhhjljneeaaDoor.P Go.Proofs.YtloojhhjljneeaaDoorW.PrintWords
open Go.ChangeMaps (open_string shut_string)
set_option linter.unusedVariables false
set_option linter.unusedSimpArgs false
theorem own : ownKnob Tryd.prog.godebug = none := by kernel_rfl
theorem laidOut : laidOutB Tryd.prog = true := by kernel_rfl
set_option maxRecDepth 100000 in
theorem op30 : Opens.Opens Tryd.prog 30 (Kd.int .u64) (fun x_ => (Lit.int .u64 x_).wf = true) := Opens.Opens.int Tryd.underlying30 (by kernel_rfl)
set_option maxRecDepth 100000 in
theorem op31 : Opens.Opens Tryd.prog 31 (Kd.int .u32) (fun x_ => (Lit.int .u32 x_).wf = true) := Opens.Opens.int Tryd.underlying31 (by kernel_rfl)
theorem cells33 : Tryd.prog.cellsOf 33 = 4 := by kernel_rfl
theorem cells30 : Tryd.prog.cellsOf 30 = 1 := by kernel_rfl
theorem cells31 : Tryd.prog.cellsOf 31 = 1 := by kernel_rfl
set_option maxRecDepth 100000 in
theorem op33 : Opens.Opens Tryd.prog 33 k33 (fun x_ => ((Lit.int .u64 x_.f0).wf = true) ∧ ((Lit.int .u64 x_.f1).wf = true) ∧ ((Lit.int .u64 x_.f2).wf = true) ∧ ((Lit.int .u32 x_.f3).wf = true)) := by
  refine ⟨cells33, fun {H enc w base spare held fuel cs x} h => ?_⟩
  obtain ⟨xs, n_, _, _, hl, hxl, hf⟩ := DataW.trod_struct Tryd.underlying33 h
  rw [cells33] at hl
  replace hxl : xs.length = 4 := hxl
  obtain ⟨v0, v1, v2, v3, rfl⟩ : ∃ v0 v1 v2 v3, cs = [v0, v1, v2, v3] := by
    match cs, hl with
    | [v0, v1, v2, v3], _ => exact ⟨v0, v1, v2, v3, rfl⟩
  have g0 := hf 0 _ rfl
  rw [List.getElem?_eq_getElem (by omega)] at g0
  (try simp only [List.getElem_toArray, List.getElem_cons_zero, List.getElem_cons_succ] at g0)
  rw [cells30] at g0
  replace g0 : DataW.trod enc Tryd.prog w base spare held n_ 30 [v0] = some xs[0] := g0
  obtain ⟨a0, k0_, o0⟩ := op30.get g0
  have g1 := hf 1 _ rfl
  rw [List.getElem?_eq_getElem (by omega)] at g1
  (try simp only [List.getElem_toArray, List.getElem_cons_zero, List.getElem_cons_succ] at g1)
  rw [cells30] at g1
  replace g1 : DataW.trod enc Tryd.prog w base spare held n_ 30 [v1] = some xs[1] := g1
  obtain ⟨a1, k1_, o1⟩ := op30.get g1
  have g2 := hf 2 _ rfl
  rw [List.getElem?_eq_getElem (by omega)] at g2
  (try simp only [List.getElem_toArray, List.getElem_cons_zero, List.getElem_cons_succ] at g2)
  rw [cells30] at g2
  replace g2 : DataW.trod enc Tryd.prog w base spare held n_ 30 [v2] = some xs[2] := g2
  obtain ⟨a2, k2_, o2⟩ := op30.get g2
  have g3 := hf 3 _ rfl
  rw [List.getElem?_eq_getElem (by omega)] at g3
  (try simp only [List.getElem_toArray, List.getElem_cons_zero, List.getElem_cons_succ] at g3)
  rw [cells31] at g3
  replace g3 : DataW.trod enc Tryd.prog w base spare held n_ 31 [v3] = some xs[3] := g3
  obtain ⟨a3, k3_, o3⟩ := op31.get g3
  exact ⟨⟨a0, a1, a2, a3⟩, ⟨[v0], [v1, v2, v3], rfl, k0_, ⟨[v1], [v2, v3], rfl, k1_, ⟨[v2], [v3], rfl, k2_, k3_⟩⟩⟩, ⟨o0, o1, o2, o3⟩⟩
set_option maxRecDepth 100000 in
theorem op5 : Opens.Opens Tryd.prog 5 (Kd.int .u8) (fun x_ => (Lit.int .u8 x_).wf = true) := Opens.Opens.int Tryd.underlying5 (by kernel_rfl)
set_option maxRecDepth 100000 in
theorem op21 : Opens.Opens Tryd.prog 21 (Kd.int .i32) (fun x_ => (Lit.int .i32 x_).wf = true) := Opens.Opens.int Tryd.underlying21 (by kernel_rfl)
theorem cells35 : Tryd.prog.cellsOf 35 = 4 := by kernel_rfl
theorem cells5 : Tryd.prog.cellsOf 5 = 1 := by kernel_rfl
theorem cells21 : Tryd.prog.cellsOf 21 = 1 := by kernel_rfl
set_option maxRecDepth 100000 in
theorem op35 : Opens.Opens Tryd.prog 35 k35 (fun x_ => ((Lit.int .u8 x_.f0).wf = true) ∧ ((Lit.int .i32 x_.f1).wf = true) ∧ ((Lit.int .i32 x_.f2).wf = true) ∧ ((Lit.int .i32 x_.f3).wf = true)) := by
  refine ⟨cells35, fun {H enc w base spare held fuel cs x} h => ?_⟩
  obtain ⟨xs, n_, _, _, hl, hxl, hf⟩ := DataW.trod_struct Tryd.underlying35 h
  rw [cells35] at hl
  replace hxl : xs.length = 4 := hxl
  obtain ⟨v0, v1, v2, v3, rfl⟩ : ∃ v0 v1 v2 v3, cs = [v0, v1, v2, v3] := by
    match cs, hl with
    | [v0, v1, v2, v3], _ => exact ⟨v0, v1, v2, v3, rfl⟩
  have g0 := hf 0 _ rfl
  rw [List.getElem?_eq_getElem (by omega)] at g0
  (try simp only [List.getElem_toArray, List.getElem_cons_zero, List.getElem_cons_succ] at g0)
  rw [cells5] at g0
  replace g0 : DataW.trod enc Tryd.prog w base spare held n_ 5 [v0] = some xs[0] := g0
  obtain ⟨a0, k0_, o0⟩ := op5.get g0
  have g1 := hf 1 _ rfl
  rw [List.getElem?_eq_getElem (by omega)] at g1
  (try simp only [List.getElem_toArray, List.getElem_cons_zero, List.getElem_cons_succ] at g1)
  rw [cells21] at g1
  replace g1 : DataW.trod enc Tryd.prog w base spare held n_ 21 [v1] = some xs[1] := g1
  obtain ⟨a1, k1_, o1⟩ := op21.get g1
  have g2 := hf 2 _ rfl
  rw [List.getElem?_eq_getElem (by omega)] at g2
  (try simp only [List.getElem_toArray, List.getElem_cons_zero, List.getElem_cons_succ] at g2)
  rw [cells21] at g2
  replace g2 : DataW.trod enc Tryd.prog w base spare held n_ 21 [v2] = some xs[2] := g2
  obtain ⟨a2, k2_, o2⟩ := op21.get g2
  have g3 := hf 3 _ rfl
  rw [List.getElem?_eq_getElem (by omega)] at g3
  (try simp only [List.getElem_toArray, List.getElem_cons_zero, List.getElem_cons_succ] at g3)
  rw [cells21] at g3
  replace g3 : DataW.trod enc Tryd.prog w base spare held n_ 21 [v3] = some xs[3] := g3
  obtain ⟨a3, k3_, o3⟩ := op21.get g3
  exact ⟨⟨a0, a1, a2, a3⟩, ⟨[v0], [v1, v2, v3], rfl, k0_, ⟨[v1], [v2, v3], rfl, k1_, ⟨[v2], [v3], rfl, k2_, k3_⟩⟩⟩, ⟨o0, o1, o2, o3⟩⟩
set_option maxRecDepth 100000 in
theorem lifted (os : Os) (started : os.Started) (H : Type) (enc : TypeId × Value → H) :
    ReturnsInHanded {} Tryd.checked os 4 .any (fun w args => (Rows.fieldBackSpec.pre enc Tryd.prog Tryd.f4 [] false w args ∧ laidMetH Tryd.prog Rows.fieldBackRow.laid w) ∧ sizedMet enc Tryd.prog Tryd.f4 (OpenSpec.ofChange Rows.fieldBackSpec) false w args) (Rows.fieldBackSpec.post enc Tryd.prog Tryd.f4 false true false false) := by
  refine returnsInHanded_of_change_and (C := Tryd.checked) (X := fun w _ => laidMetH Tryd.prog Rows.fieldBackRow.laid w) (fun _ _ _ hh h => h.of_heap hh) own started (by kernel_rfl) Tryd.func4
    (ChangeSpec.witness_shaped (enc := enc) (C := Tryd.checked) (os := os) (X := fun w _ => laidMetH Tryd.prog Rows.fieldBackRow.laid w) false (World.laidAll Tryd.prog os Rows.fieldBackRow.laid) #[.agg #[(.int .u64 0), (.int .u64 0), (.int .u64 0), (.int .u32 0)], .agg #[(.int .u8 0), (.int .i32 0), (.int .i32 0), (.int .i32 0)], .int .u32 0, .int .u32 0, .string ByteArray.empty, .string ByteArray.empty] 8 (World.laidAll_os _ _ _)
      (World.shaped_of_ZipB (by kernel_rfl) (by kernel_rfl)) (by kernel_rfl) (by kernel_rfl) (by kernel_rfl)
      (by rw [MakeChecks.laidMetH_plain _ _ _ (by kernel_rfl)]; exact laidMet_laidAll _ (by kernel_rfl) (by kernel_rfl))) ?_
  intro W base args ds gs before hval0 hW hcnd hsz0 hL _
  rw [MakeChecks.laidMetH_plain _ _ _ (by kernel_rfl)] at hL
  have hsz : (DataW.weightsEach Tryd.prog (Tryd.f4.params.toList ++ Rows.fieldBackSpec.plain.varTypes Tryd.prog) (ds ++ gs)).all (· ≤ reachBytes) = true := hsz0
  have hval : ∀ (j : Nat) t v, Tryd.f4.params[j]? = some t → args[j]? = some v → Value.okWide Tryd.prog W .any base t v := hval0
  have hW' := hW
  obtain ⟨p, q, hA0, hV, rfl, hfz, hnd⟩ := hW
  have hA : DataW.TrodAll enc Tryd.prog W 0 (fun _ => true) true Tryd.f4.params.toList args.toList ds p := hA0
  rw [Tryd.params4] at hA hval hsz
  obtain ⟨v0, vs0, d0, ds0, p0, q0, hargs, rfl, rfl, h0, r0⟩ := trodAll_cons hA
  obtain ⟨v1, vs1, d1, ds1, p1, q1, rfl, rfl, rfl, h1, r1⟩ := trodAll_cons r0
  obtain ⟨v2, vs2, d2, ds2, p2, q2, rfl, rfl, rfl, h2, r2⟩ := trodAll_cons r1
  obtain ⟨v3, vs3, d3, ds3, p3, q3, rfl, rfl, rfl, h3, r3⟩ := trodAll_cons r2
  obtain ⟨v4, vs4, d4, ds4, p4, q4, rfl, rfl, rfl, h4, r4⟩ := trodAll_cons r3
  obtain ⟨v5, vs5, d5, ds5, p5, q5, rfl, rfl, rfl, h5, r5⟩ := trodAll_cons r4
  obtain ⟨rfl, rfl, rfl⟩ := trodAll_nil r5
  obtain rfl : args = #[v0, v1, v2, v3, v4, v5] := by cases args; simp_all
  obtain ⟨rfl, rfl⟩ := trodVars_none hV
  obtain ⟨cs0, rfl, _⟩ := okWide_struct Tryd.underlying33 (hval 0 33 v0 rfl rfl)
  have k0 := h0
  have lt0 : ∀ x ∈ p0, x.block < W.heap.size := by obtain ⟨m, hm⟩ := k0; exact DataW.trod_lt m _ _ _ hm
  have hh0 := h0
  obtain ⟨m0_, hm0_⟩ := hh0
  obtain ⟨a0, hK0, hok0⟩ := op33.get hm0_
  obtain ⟨cs1, rfl, _⟩ := okWide_struct Tryd.underlying35 (hval 1 35 v1 rfl rfl)
  have k1 := h1
  have lt1 : ∀ x ∈ p1, x.block < W.heap.size := by obtain ⟨m, hm⟩ := k1; exact DataW.trod_lt m _ _ _ hm
  have hh1 := h1
  obtain ⟨m1_, hm1_⟩ := hh1
  obtain ⟨a1, hK1, hok1⟩ := op35.get hm1_
  obtain ⟨a2, rfl, rfl, rfl, w2⟩ := open_int Tryd.underlying31 (hval 2 31 v2 rfl rfl) h2
  obtain ⟨a3, rfl, rfl, rfl, w3⟩ := open_int Tryd.underlying31 (hval 3 31 v3 rfl rfl) h3
  obtain ⟨a4, rfl, rfl, rfl, y4⟩ := open_string Tryd.underlying9 (hval 4 9 v4 rfl rfl) h4
  have w4 : a4.size ≤ 140737488351232 := by
    have z := sized_string hsz (j := 4) (t := 9) rfl rfl
    rw [Array.length_toList] at z
    exact z
  obtain ⟨a5, rfl, rfl, rfl, y5⟩ := open_string Tryd.underlying9 (hval 5 9 v5 rfl rfl) h5
  have w5 : a5.size ≤ 140737488351232 := by
    have z := sized_string hsz (j := 5) (t := 9) rfl rfl
    rw [Array.length_toList] at z
    exact z
  clear hA0 hval0 hsz0 hsz
  refine (Walk.FieldBack a0 cs0 a1 cs1 a2 a3 a4 a5 W hK0 hok0 hK1 hok1 w2 w3 w4 w5 (Ut.tabs_of_laid hL)).mono fun e W' ⟨he, bel⟩ => ?_
  subst he
  exact ⟨_, rfl, _, _, _, [], _, [], hW', trodAll_mk1 (shut_bool Tryd.underlying4 _), (trodAll_cons_mk (Below.trod laidOut (by kernel_rfl) (of_decide_eq_true (by kernel_rfl)) k0 bel lt0) (trodAll_cons_mk (Below.trod laidOut (by kernel_rfl) (of_decide_eq_true (by kernel_rfl)) k1 bel lt1) (trodAll_cons_mk (shut_int Tryd.underlying31 w2) (trodAll_cons_mk (shut_int Tryd.underlying31 w3) (trodAll_cons_mk (shut_string Tryd.underlying9 y4) (trodAll_cons_mk (shut_string Tryd.underlying9 y5) trodAll_mk0)))))), rfl, bel.frame _, fun h => by cases h⟩
theorem over : Rows.fieldBackRow.holds Tryd.pinned (OpenSpec.ofChange Rows.fieldBackSpec) :=
  OpenClaim.holds_of_wide 4 Tryd.f4 rfl rfl rfl rfl rfl rfl rfl ⟨rfl, rfl, rfl, rfl, rfl⟩ rfl rfl rfl rfl rfl (by kernel_rfl) Tryd.func4 (by kernel_rfl)
    (of_decide_eq_true (by kernel_rfl)) (by unfold Func.isWrapper; first | (rw [if_pos (by decide +kernel)]; kernel_rfl) | (rw [if_neg (by decide +kernel)]; exact ⟨rfl, rfl⟩))
    (fun os started H enc _ => lifted os started H enc)
theorem card : Rows.FieldBackCardSaid :=
  Claim7.holds_tied_plain_at .later [] [.data, .pinned] true (true, "8bdb0d8fdb0a437ee36645265d4173e4244003aa33c57cf49aebbaf54d283cae") false over (fun _ h => by cases h) (by kernel_rfl) (fun _ h => by cases h) fieldBack_row_tie rfl ⟨rfl, rfl⟩ (by kernel_rfl) rfl
    (fun f fn hf hfn => by
      obtain rfl : f = 4 := Option.some.inj ((show Tryd.prog.funcNamed "portmanteau/portmanteaulaw14.FieldBack" = some 4 by kernel_rfl).symm.trans hf) |>.symm
      obtain rfl : fn = Tryd.f4 := (Option.some.inj (Tryd.func4.symm.trans hfn)).symm
      exact ⟨by kernel_rfl, fun j t ht => by
        rw [Tryd.params4] at ht
        have hm : t ∈ [33, 35, 31, 9] := by simpa using Array.mem_of_getElem? ht
        have hall : ([33, 35, 31, 9].all fun u => !Tryd.prog.wantsStandIn u) = true := by kernel_rfl
        exact (show Tryd.prog.wantsStandIn t = false by simpa using List.all_eq_true.1 hall t hm)⟩)
    (by kernel_rfl)
end Go.Proofs.YtloojhhjljneeaaDoor.fieldBack
namespace Go.Proofs.YtloojhhjljneeaaDoor
theorem fieldBack_holds : Rows.FieldBackCardSaid := fieldBack.card
end Go.Proofs.YtloojhhjljneeaaDoor
