/- slices.Clone of fields, in the printer's form: the walk. -/
import Derived.Test.YtdlcihbfdbdbbaaRowApp
import Derived.Lib.AppendZerosOnto
import Derived.Lib.AppendZeros
import Derived.Lib.SliceRun
namespace Go.Proofs.Ytdlcihbfdbdbbaa.P
set_option linter.unusedVariables false
set_option linter.unusedSimpArgs false
open Go Go.RowKit Go.Proofs.YtdlcihbfdbdbbaaW.PrintWords Go.Proofs.YtdlcihbfdbdbbaaW.PrintLast Go.Proofs.YtdlcihbfdbdbbaaW.PrintMore
theorem Own.new0 (w : World) : Own (w.alloc (.cells #[] 38)) w.heap.size (.slice (some ⟨w.heap.size, 0, none⟩) 0 0) [] :=
  ⟨rfl, .inr ⟨w.heap.size, 0, #[], rfl, Nat.le_refl _, heap_alloc_new w _, Nat.le_refl _, by decide, rfl, rfl⟩⟩
set_option maxHeartbeats 4000000 in
set_option maxRecDepth 100000 in
theorem clone_calls (A : Option Addr) (c : Nat) (l : List S38) (w : World) (hr : Kd.C k38 w A l.length l) (hc : l.length ≤ c) (hl : l.length ≤ 1000) :
    Calls Try.prog 34 #[.slice A l.length c] w fun e w' => ∃ v, e = .returned v ∧ Own w' w.heap.size v l ∧ Below w.heap.size w w' := by
  cases A with
  | none =>
    have hl0 : l = [] := by
      cases l with
      | nil => rfl
      | cons x l =>
        obtain ⟨ad, e1, _⟩ := at_T38 hr 0 (by omega) (by simp)
        cases e1
    subst hl0
    have q22 := Lib.run_eql_slice_nil (P := Try.prog) w 22 38 none 0 c 0 0 Try.underlying22
    go_enter Try.func34, Try.ntmps34
    go_wp2
    go_ret
    exact ⟨_, rfl, ⟨rfl, .inl ⟨rfl, rfl⟩⟩, Below.refl _ _⟩
  | some a =>
    have q22 := Lib.run_eql_slice_nil (P := Try.prog) w 22 38 (some a) l.length c 0 0 Try.underlying22
    have hown := Own.new0 w
    have hC := Kd.C_below hr (below_alloc (Below.refl w.heap.size w) (.cells #[] 38))
    obtain ⟨v', w', hrun, ho, hg⟩ := app_run (c := c) hown hC (by simp; omega) (by simp) 22
    have HO := Aside0.mk ho
    have HG := Aside0.mk ((below_alloc (Below.refl w.heap.size w) (.cells #[] 38)).grown hg (by simp) (by intro k hk; simp [Value.ownBlock] at hk; omega))
    clear ho hg hown hC hr hc
    go_enter Try.func34, Try.ntmps34
    go_wp2_with (at_builtin; refine Lib.wpList_append_run _ rfl _ _ 22 22 rfl _ _ rfl rfl v' w' hrun ?_)
    go_ret
    exact ⟨_, rfl, HO.out, HG.out⟩
def api_Field_34.f (l0 : List S38) : Option (List S38) := if l0.length ≤ 1000 then some l0 else none
theorem api_Field_34.calls (A0 : Option Addr) (c0 : Nat) (l0 : List S38) (r : List S38) (w : World) (hr0 : Kd.C k38 w A0 l0.length l0) (hc0 : l0.length ≤ c0) (h : api_Field_34.f l0 = some r) :
    Calls Try.prog 34 #[.slice A0 l0.length c0] w fun e w' => ∃ v0_ : Value, e = .returned (v0_) ∧ Kd.R k38 38 w' w.heap.size (fun _ => True) v0_ r ∧ Below w.heap.size w w' := by
  unfold api_Field_34.f at h
  by_cases hl : l0.length ≤ 1000
  case neg => rw [if_neg hl] at h; cases h
  rw [if_pos hl] at h
  obtain rfl := Option.some.inj h
  exact (clone_calls A0 c0 l0 w hr0 hc0 hl).mono fun e w' ⟨v, he, ho, hb⟩ => ⟨v, he, ho.toR, hb⟩
end Go.Proofs.Ytdlcihbfdbdbbaa.P
