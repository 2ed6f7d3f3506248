/- What the data of a law's argument say of the memory: for any type that is made of whole numbers, bools, strings, structs and slices. -/
import Derived.Test.YtlfcepdaicngjaaWMore
import Derived.ChangeArms
import Derived.DataReads
import Derived.SizedLaws
import Derived.WideShapes
namespace Go.Proofs.Ytlfcepdaicngjaa.Opens
set_option linter.unusedVariables false
set_option linter.unusedSimpArgs false
open Go Go.RowKit Go.Proofs.YtlfcepdaicngjaaW.PrintWords Go.Proofs.YtlfcepdaicngjaaW.PrintLast Go.Proofs.YtlfcepdaicngjaaW.PrintMore
section
variable {P : Program}
/-- Whatever reads as data of type t says an element of kind d. -/
structure Opens {α : Type} (P : Program) (t : TypeId) (d : Kd α) (ok : α → Prop) : Prop where
  size : P.cellsOf t = d.sz
  get : ∀ {H : Type} {enc : TypeId × Value → H} {w : World} {base : Nat} {spare : Nat → Bool} {held : Bool} {fuel : Nat} {cs : List Value} {x : DataW H × List MemPlace},
    DataW.trod enc P w base spare held fuel t cs = some x → ∃ a, d.K w a cs ∧ ok a
theorem Opens.int {t : TypeId} {k : IntKind} (hu : P.underlying t = some (.int k)) (hs : P.cellsOf t = 1) : Opens P t (Kd.int k) (fun n => (Lit.int k n).wf = true) :=
  ⟨hs, fun h => by obtain ⟨n, rfl, _, hw⟩ := DataW.trod_int hu h; exact ⟨n, rfl, hw⟩⟩
theorem Opens.bool {t : TypeId} (hu : P.underlying t = some .bool) (hs : P.cellsOf t = 1) : Opens P t Kd.bool (fun _ => True) :=
  ⟨hs, fun h => by obtain ⟨b, rfl, _⟩ := DataW.trod_bool hu h; exact ⟨b, rfl, trivial⟩⟩
theorem Opens.string {t : TypeId} (hu : P.underlying t = some .string) (hs : P.cellsOf t = 1) : Opens P t Kd.string (fun s => s.size ≤ maxLen) :=
  ⟨hs, fun h => by obtain ⟨s, rfl, _, hl⟩ := DataW.trod_string hu h; exact ⟨s, rfl, hl⟩⟩
/-- A slice's cells: its length, and the row that is read. -/
theorem slice_row {α : Type} {t e : TypeId} {d : Kd α} {ok : α → Prop} (hu : P.underlying t = some (.slice e)) (ho : Opens P e d ok)
    {H : Type} {enc : TypeId × Value → H} {w : World} {base : Nat} {spare : Nat → Bool} {held : Bool} {fuel : Nat} {cs : List Value} {x : DataW H × List MemPlace}
    (h : DataW.trod enc P w base spare held fuel t cs = some x) :
    ∃ A c, ∃ xs : List α, cs = [.slice A xs.length c] ∧ xs.length ≤ c ∧ d.C w A xs.length xs ∧ (∀ a ∈ xs, ok a) ∧ (x.1 = .nil ∧ xs = [] ∨ ∃ elems rest, x.1 = .slice elems rest ∧ elems.length = xs.length) := by
  rcases DataW.trod_slice hu h with ⟨rfl, rfl⟩ | ⟨a, len, cap, elems, rest, n, _, rfl, rfl, _, hl, hm, hlen, hel, _, _⟩
  · exact ⟨none, 0, [], rfl, Nat.le_refl _, ⟨rfl, by simp, fun h0 => absurd h0 (by simp)⟩, (fun a ha => by cases ha), .inl ⟨rfl, rfl⟩⟩
  · have each : ∀ i : Fin len, ∃ p, ok p ∧ ∃ c, c.length = d.sz ∧ d.K w p c ∧ ∀ j u, c[j]? = some u → w.cell? (a.add (i * d.sz + j)) = some u := by
      intro i
      have h1 := hel i i.2
      have h2 : (i : Nat) < elems.length := by have := i.2; omega
      rw [List.getElem?_eq_getElem h2, Option.bind_eq_some_iff] at h1
      obtain ⟨cs', hcs, ht⟩ := h1
      obtain ⟨_, hcl, hcc⟩ := World.cells?_some hcs
      obtain ⟨p, hp, hok⟩ := ho.get ht
      rw [ho.size] at hcl hcc
      refine ⟨p, hok, cs', hcl, hp, fun j u hj => ?_⟩
      have hj2 : j < d.sz := by
        rw [← hcl]
        exact (List.getElem?_eq_some_iff.1 hj).1
      have h3 := hcc j hj2
      rw [hj] at h3
      rw [← h3, add_add]
    have hg : ∀ (j : Nat) (p : α), (List.ofFn fun i => Classical.choose (each i))[j]? = some p → ∃ hj : j < len, p = Classical.choose (each ⟨j, hj⟩) := by
      intro j p hp
      obtain ⟨hj, he⟩ := List.getElem?_eq_some_iff.1 hp
      rw [List.length_ofFn] at hj
      refine ⟨hj, ?_⟩
      rw [← he, List.getElem_ofFn]
    refine ⟨some a, cap, List.ofFn fun i => Classical.choose (each i), by rw [List.length_ofFn], by rw [List.length_ofFn]; exact hl, ⟨rfl, ?_, fun _ => ⟨a, rfl, fun j p hp => ?_⟩⟩, ?_, .inr ⟨_, _, rfl, by rw [List.length_ofFn, List.length_map, hlen]⟩⟩
    · rw [List.length_ofFn]
      unfold maxLen at hm
      omega
    · obtain ⟨hj, rfl⟩ := hg j p hp
      obtain ⟨_, c, hc, hk, hcell⟩ := Classical.choose_spec (each ⟨j, hj⟩)
      exact ⟨c, hc, hk, hcell⟩
    · intro p hp
      obtain ⟨j, hj⟩ := List.getElem?_of_mem hp
      obtain ⟨hj', rfl⟩ := hg j p hj
      exact (Classical.choose_spec (each ⟨j, hj'⟩)).1
theorem Opens.slice {α : Type} {t e : TypeId} {d : Kd α} {ok : α → Prop} (hu : P.underlying t = some (.slice e)) (hs : P.cellsOf t = 1) (ho : Opens P e d ok) : Opens P t (Kd.slice e d) (fun xs => ∀ a ∈ xs, ok a) :=
  ⟨hs, fun h => by obtain ⟨A, c, xs, rfl, hl, hc, hok, _⟩ := slice_row hu ho h; exact ⟨xs, ⟨A, c, rfl, hl, hc⟩, hok⟩⟩
/-- A law's slice argument: what it reads as, and how long it is at most. -/
theorem open_row {α : Type} {t e : TypeId} {d : Kd α} {ok : α → Prop} (hu : P.underlying t = some (.slice e)) (ho : Opens P e d ok)
    {H : Type} {enc : TypeId × Value → H} {w : World} {base : Nat} {spare : Nat → Bool} {held : Bool} {a : Option Addr} {len cap : Nat} {dd : DataW H} {ps : List MemPlace} {ts : List TypeId} {ds : List (DataW H)} {j : Nat}
    (hsz : (DataW.weightsEach P ts ds).all (· ≤ reachBytes) = true) (ht : ts[j]? = some t) (hd : ds[j]? = some dd)
    (h : DataW.Trod enc P w base spare held t (.slice a len cap) dd ps) :
    ∃ xs : List α, xs.length = len ∧ len ≤ cap ∧ d.C w a xs.length xs ∧ (∀ x ∈ xs, ok x) ∧ xs.length * P.bytesOf e ≤ 140737488351232 := by
  obtain ⟨fuel, hf⟩ := h
  obtain ⟨A, c, xs, hcs, hl, hc, hok, hx⟩ := slice_row hu ho hf
  simp [Value.cells] at hcs
  obtain ⟨rfl, rfl, rfl⟩ := hcs
  refine ⟨xs, rfl, hl, hc, hok, ?_⟩
  rcases hx with ⟨_, rfl⟩ | ⟨elems, rest, hx, he⟩
  · simp
  · simp only at hx
    subst hx
    have z := Go.sized_slice hsz ht hd hu
    have h3 : xs.length ≤ elems.length + rest.length := by omega
    exact Nat.le_trans (Nat.mul_le_mul_right _ h3) z
end
end Go.Proofs.Ytlfcepdaicngjaa.Opens
