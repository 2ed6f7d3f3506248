/- Rows of fields that the call owns: append(own, row...), what it leaves. -/
import Derived.Test.YtdlcihbfdbdbbaaGiveplace
import Derived.Maps.AppendAt
import Derived.Deep.AppendSrc
import Derived.Test.YtdlcihbfdbdbbaaPx0
namespace Go.Proofs.Ytdlcihbfdbdbbaa.P
set_option linter.unusedVariables false
set_option linter.unusedSimpArgs false
open Go Go.RowKit Go.Proofs.YtdlcihbfdbdbbaaW.PrintWords Go.Proofs.YtdlcihbfdbdbbaaW.PrintLast Go.Proofs.YtdlcihbfdbdbbaaW.PrintMore
def cl (l : List S38) : List Value := l.flatMap fun x => [.int .u16 x.f0, .string x.f1]
theorem cl_len (l : List S38) : (cl l).length = l.length * 2 := by
  induction l with
  | nil => rfl
  | cons x l ih => simp [cl] at ih ⊢; omega
theorem cl_app (a b : List S38) : cl (a ++ b) = cl a ++ cl b := by simp [cl]
theorem cl_one (l : List S38) : ∀ u ∈ cl l, u.oneCell' = true := by
  intro u hu
  simp only [cl, List.mem_flatMap] at hu
  obtain ⟨x, _, hx⟩ := hu
  simp only [List.mem_cons, List.not_mem_nil, or_false] at hx
  rcases hx with rfl | rfl <;> rfl
theorem cl_get (l : List S38) (j : Nat) (hj : j < l.length) : (cl l)[j * 2]? = some (.int .u16 l[j].f0) ∧ (cl l)[j * 2 + 1]? = some (.string l[j].f1) := by
  induction l generalizing j with
  | nil => simp at hj
  | cons x l ih =>
    cases j with
    | zero => exact ⟨rfl, rfl⟩
    | succ j =>
      have := ih j (by simpa using hj)
      rw [show (j + 1) * 2 = j * 2 + 2 by omega, show j * 2 + 2 + 1 = j * 2 + 1 + 2 by omega]
      exact this
/-- A row of fields of the call's own. -/
def Own (w : World) (base : Nat) (v : Value) (l : List S38) : Prop := w.ownsRow base 38 2 v l.length (cl l)
theorem Own.toR {w : World} {base : Nat} {v : Value} {l : List S38} (h : Own w base v l) : Kd.R k38 38 w base (fun _ => True) v l := by
  refine ⟨fun _ _ => trivial, cl l, h, ?_⟩
  have hr : ∀ (l : List S38), Reps (k38.M w base (fun k => True ∧ some k ≠ v.ownBlock)) 2 l (cl l) := by
    intro l
    have : ∀ (n : Nat), n ≤ l.length → Reps (k38.M w base (fun k => True ∧ some k ≠ v.ownBlock)) 2 (l.take n) (cl (l.take n)) := by
      intro n
      induction n with
      | zero => intro _; exact Reps.none _ _
      | succ n ih =>
        intro hn
        rw [List.take_succ_eq_append_getElem (by omega), cl_app]
        exact (ih (by omega)).snoc (k38_mkM _ _ _ _) rfl
    have := this l.length (Nat.le_refl _)
    rwa [List.take_length] at this
  exact hr l
theorem Own.reads {w : World} {base : Nat} {v : Value} {l : List S38} (h : Own w base v l) : ∃ A c, v = .slice A l.length c ∧ l.length ≤ c ∧ Kd.C k38 w A l.length l := Kd.R_reads h.toR
theorem addr_succ (a : Addr) (q j : Nat) (h : j = q + 1) : a.add j = ⟨(a.add q).block, (a.add q).off + 1, none⟩ := by
  subst h
  by_cases hq : q = 0
  · subst hq; simp [Addr.add]
  · simp [Addr.add, hq]; omega
/-- The cells of a row that is read. -/
theorem C_cells {w : World} {A : Addr} {l : List S38} (h : Kd.C k38 w (some A) l.length l) : ∀ j u, (cl l)[j]? = some u → w.cell? (A.add j) = some u := by
  intro j u hu
  have hj : j < l.length * 2 := by rw [← cl_len]; exact (List.getElem?_eq_some_iff.1 hu).1
  obtain ⟨ad, e1, hx0, hx1⟩ := at_T38 h ((j / 2 : Nat) : Int) (by omega) (by omega)
  cases e1
  rw [rdT_get l (j / 2) (by omega), Int.toNat_natCast] at hx0 hx1
  obtain ⟨g0, g1⟩ := cl_get l (j / 2) (by omega)
  by_cases hp : j % 2 = 0
  · rw [show j / 2 * 2 = j by omega] at hx0 g0
    rw [g0] at hu
    obtain rfl := Option.some.inj hu
    exact hx0
  · rw [show j / 2 * 2 + 1 = j by omega] at g1
    rw [g1] at hu
    obtain rfl := Option.some.inj hu
    rw [addr_succ A (j / 2 * 2) j (by omega)]
    exact hx1
/-- append(v, row...), v a row of the call's own. -/
theorem app_run {w : World} {base : Nat} {v : Value} {l ys : List S38} {A : Option Addr} {c : Nat} (h : Own w base v l) (hC : Kd.C k38 w A ys.length ys) (hn : l.length + ys.length ≤ 1000000) (hbase : base ≤ w.heap.size) (ty : TypeId) :
    ∃ v' w', (Builtin.append_ #[22, 22] ty #[v, .slice A ys.length c]).run Try.prog w = .ok v' w' ∧ Own w' base v' (l ++ ys) ∧ w.grownBy w' v.ownBlock := by
  obtain ⟨i0, hi, hzz⟩ := Option.map_eq_some_iff.1 info38
  simp only [Prod.mk.injEq] at hzz
  have hh : w.ownsRow base 38 2 v l.length (cl l) := h
  cases A with
  | some a =>
    obtain ⟨v', w', h1, h2, h3, _, _⟩ := run_append_own_at (P := Try.prog) w base 22 ty 38 i0 _ 2 24 Try.underlying22 hi hzz.1 hzz.2.1 hzz.2.2 rfl (by decide) v l.length (cl l) hh a ys.length c (cl ys) (cl_len ys) (C_cells hC) (cl_one ys) (by unfold maxLen; omega) (by omega) hbase
    exact ⟨v', w', h1, by unfold Own; rw [List.length_append, cl_app]; exact h2, h3⟩
  | none =>
    have hy : ys = [] := by
      cases ys with
      | nil => rfl
      | cons y ys =>
        obtain ⟨ad, e1, _⟩ := at_T38 hC 0 (by omega) (by simp)
        cases e1
    subst hy
    rw [List.append_nil]
    rcases hh.2 with ⟨rfl, h0⟩ | ⟨g, cap, cur, rfl, hbg, hg, hnc, hcm, hcs, htake⟩
    · refine ⟨.slice none 0 0, w, ?_, h, ⟨rfl, rfl, rfl, Nat.le_refl _, fun _ _ _ => rfl⟩⟩
      simp [Builtin.append_, run_underlying Try.underlying22, sizeOf, typeInfo, hi, Builtin.lenOf, Builtin.firstCells, loadCells, loadCellsFrom]
    · have hr := run_append_room_src (P := Try.prog) w 22 22 ty 38 i0 Try.underlying22 hi g 0 l.length cap (.slice none 0 c) 0 [] (Src.ofNil w Try.underlying22 c) (by omega) (fun j hj => absurd hj (by simp)) (fun j hj => absurd hj (by simp))
      refine ⟨_, _, hr, ?_, ?_⟩
      · exact h
      · exact ⟨rfl, rfl, rfl, Nat.le_refl _, fun _ _ _ => rfl⟩
end Go.Proofs.Ytdlcihbfdbdbbaa.P
