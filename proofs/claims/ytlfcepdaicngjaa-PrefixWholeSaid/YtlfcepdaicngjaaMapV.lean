/- A map of the call's own from keys to plain values, told as a function: read, and stored into. -/
import Derived.Test.YtlfcepdaicngjaaWMore
import Derived.Maps.Keyed
import Derived.WideKeyEntry
import Derived.ChangeMaps5
namespace Go.Proofs.Ytlfcepdaicngjaa.MapV
set_option linter.unusedVariables false
set_option linter.unusedSimpArgs false
set_option linter.unusedSectionVars false
open Go Go.RowKit Go.MapKept Go.ChangeMaps Go.Maps Go.Proofs.YtlfcepdaicngjaaW.PrintWords Go.Proofs.YtlfcepdaicngjaaW.PrintLast Go.Proofs.YtlfcepdaicngjaaW.PrintMore
section
variable {P : Program} {κ : Type} [DecidableEq κ] {enc : κ → Value} {k : TypeId}

/-- What a map tells behind a store. -/
def upd (g : κ → Option Value) (a : κ) (v : Value) : κ → Option Value := fun c => if c = a then some v else g c
/-- Block b of w is a map that tells g. -/
def OwnsV (enc : κ → Value) (w : World) (b : Nat) (g : κ → Option Value) : Prop :=
  ∃ es clock, w.heap[b]? = some (.map es clock) ∧ (∀ x ∈ es.toList, ∃ a, x.key = enc a) ∧ (es.toList.map (·.key)).Nodup ∧ (∀ a v, g a = some v ↔ ∃ x ∈ es.toList, x.key = enc a ∧ x.val = v) ∧ (∀ x ∈ es.toList, x.born < clock) ∧ (es.toList.map (·.born)).Nodup

theorem made (w : World) : OwnsV enc (w.alloc (.map #[] 0)) w.heap.size (fun _ => none) :=
  ⟨#[], 0, (heap_alloc w _).1, by simp, by simp, by simp, by simp, by simp⟩
theorem OwnsV.lt {w : World} {b : Nat} {g : κ → Option Value} (h : OwnsV enc w b g) : b < w.heap.size := by
  obtain ⟨es, clock, hm, _⟩ := h
  exact (Array.getElem?_eq_some_iff.1 hm).1
theorem OwnsV.move {w w1 : World} {b : Nat} {g : κ → Option Value} (h : OwnsV enc w b g) (hb : w1.heap[b]? = w.heap[b]?) : OwnsV enc w1 b g := by
  obtain ⟨es, clock, hm, h1, h2, h3, h4, h5⟩ := h
  exact ⟨es, clock, hb.trans hm, h1, h2, h3, h4, h5⟩
theorem OwnsV.grown {w w1 : World} {b : Nat} {g : κ → Option Value} {row : Option Nat} (h : OwnsV enc w b g) (hg : w.grownBy w1 row) (hb : some b ≠ row) : OwnsV enc w1 b g := h.move (hg.block b h.lt hb)
theorem OwnsV.below {w w1 : World} {b : Nat} {g : κ → Option Value} (h : OwnsV enc w b g) (hb : Below w.heap.size w w1) : OwnsV enc w1 b g := h.move (hb.block b h.lt)
theorem grown_block {w : World} {b : Nat} {es es' : Array MapEntry} {c c' : Nat} (hb : w.heap[b]? = some (.map es c)) : w.grownBy (setBlock w b (.map es' c')) (some b) :=
  ⟨rfl, rfl, rfl, by simp [setBlock], fun i _ hne => heap_setBlock_other hb _ (fun e => hne (by rw [e]))⟩
theorem push_lt {es : Array MapEntry} {clock : Nat} (h4 : ∀ x ∈ es.toList, x.born < clock) (u v : Value) : ∀ x ∈ (es.push ⟨u, v, clock⟩).toList, x.born < clock + 1 := by
  intro x hx
  rw [Array.toList_push] at hx
  rcases List.mem_append.1 hx with hx | hx
  · have := h4 x hx; omega
  · rw [List.mem_singleton.1 hx]; simp
theorem push_nd {es : Array MapEntry} {clock : Nat} (h4 : ∀ x ∈ es.toList, x.born < clock) (h5 : (es.toList.map (·.born)).Nodup) (u v : Value) : ((es.push ⟨u, v, clock⟩).toList.map (·.born)).Nodup := by
  rw [Array.toList_push, List.map_append]
  refine List.nodup_append.2 ⟨h5, by simp, fun q hq c hc e1 => ?_⟩
  simp only [List.map_cons, List.map_nil, List.mem_singleton] at hc
  obtain ⟨x, hx, rfl⟩ := List.mem_map.1 hq
  have := h4 x hx
  omega
section
variable {t E : TypeId} {w : World} {b : Nat} {g : κ → Option Value}
theorem find_key (K : Keyed P k) (hkey : ∀ a : κ, ∃ l, keyOf P k (enc a) = some l) {es : Array MapEntry} (h1 : ∀ x ∈ es.toList, ∃ a, x.key = enc a) (a : κ) :
    ((Instr.findKey k (enc a) es.toList).run P w = .ok none w ∧ ∀ e ∈ es.toList, e.key ≠ enc a) ∨ ∃ j e, (Instr.findKey k (enc a) es.toList).run P w = .ok (some (j, e.val)) w ∧ es.toList[j]? = some e ∧ e.key = enc a := by
  obtain ⟨kl, hkl⟩ := hkey a
  refine K.find w hkl es.toList (fun e he => ?_)
  obtain ⟨c, hc⟩ := h1 e he
  rw [hc]
  exact hkey c
/-- m[a], with or without 'ok'. -/
theorem lookup_run (K : Keyed P k) (ht : P.underlying t = some (.map k E)) {z : Value} (hz : ∀ u : World, (zeroValue E).run P u = .ok z u) (hinj : ∀ a c : κ, enc a = enc c → a = c) (hkey : ∀ a : κ, ∃ l, keyOf P k (enc a) = some l)
    (h : OwnsV enc w b g) (a : κ) (ok : Bool) : (Instr.lookup t (.map (some b)) (enc a) ok).run P w = .ok (if ok then .tuple #[(g a).getD z, .bool (g a).isSome] else (g a).getD z) w := by
  obtain ⟨es, clock, hm, h1, h2, h3, h4, h5⟩ := h
  obtain ⟨kl, hkl⟩ := hkey a
  rcases find_key (w := w) K hkey h1 a with ⟨hf, hno⟩ | ⟨j, e0, hf, hj, he⟩
  · have hg : g a = none := by
      cases hga : g a with
      | none => rfl
      | some v => obtain ⟨x, hx, hxk, _⟩ := (h3 a v).1 hga; exact absurd hxk (hno x hx)
    rw [hg]
    simp [Instr.lookup, run_underlying ht, MapKept.run_getObj_map hm, K.check w _ hkl, hf, hz, Result.andThen]
  · have hg : g a = some e0.val := (h3 a _).2 ⟨e0, List.mem_of_getElem? hj, he, rfl⟩
    rw [hg]
    simp [Instr.lookup, run_underlying ht, MapKept.run_getObj_map hm, K.check w _ hkl, hf, Result.andThen]
theorem owns_push {es : Array MapEntry} {clock : Nat} {a : κ} (hinj : ∀ a c : κ, enc a = enc c → a = c) (hm : w.heap[b]? = some (.map es clock)) (h1 : ∀ x ∈ es.toList, ∃ a, x.key = enc a) (h2 : (es.toList.map (·.key)).Nodup)
    (h3 : ∀ a v, g a = some v ↔ ∃ x ∈ es.toList, x.key = enc a ∧ x.val = v) (h4 : ∀ x ∈ es.toList, x.born < clock) (h5 : (es.toList.map (·.born)).Nodup) (hno : ∀ e ∈ es.toList, e.key ≠ enc a) (v : Value) :
    OwnsV enc (setBlock w b (.map (es.push ⟨enc a, v, clock⟩) (clock + 1))) b (upd g a v) := by
  refine ⟨_, _, heap_setBlock_same hm _, ?_, ?_, ?_, ?_, ?_⟩
  · intro x hx
    rw [Array.toList_push] at hx
    rcases List.mem_append.1 hx with hx | hx
    · exact h1 x hx
    · rw [List.mem_singleton.1 hx]; exact ⟨a, rfl⟩
  · rw [Array.toList_push, List.map_append]
    refine List.nodup_append.2 ⟨h2, by simp, fun q hq c hc e1 => ?_⟩
    simp only [List.map_cons, List.map_nil, List.mem_singleton] at hc
    obtain ⟨x, hx, rfl⟩ := List.mem_map.1 hq
    exact hno x hx (e1.trans hc)
  · intro c u
    unfold upd
    rw [Array.toList_push]
    by_cases hc : c = a
    · rw [if_pos hc]
      constructor
      · intro e; injection e with e; exact ⟨⟨enc a, v, clock⟩, by simp, by rw [hc], e⟩
      · rintro ⟨x, hx, hxk, rfl⟩
        rcases List.mem_append.1 hx with hx | hx
        · exact absurd (hxk.trans (by rw [hc])) (hno x hx)
        · rw [List.mem_singleton.1 hx]
    · rw [if_neg hc, h3 c u]
      constructor
      · rintro ⟨x, hx, hxk, hv⟩; exact ⟨x, List.mem_append_left _ hx, hxk, hv⟩
      · rintro ⟨x, hx, hxk, hv⟩
        rcases List.mem_append.1 hx with hx | hx
        · exact ⟨x, hx, hxk, hv⟩
        · rw [List.mem_singleton.1 hx] at hxk; exact absurd (hinj _ _ hxk).symm hc
  · exact push_lt h4 _ _
  · exact push_nd h4 h5 _ _
/-- m[a] = v. -/
theorem update_run (K : Keyed P k) (ht : P.underlying t = some (.map k E)) (hinj : ∀ a c : κ, enc a = enc c → a = c) (hkey : ∀ a : κ, ∃ l, keyOf P k (enc a) = some l)
    (h : OwnsV enc w b g) (a : κ) (v : Value) : ∃ w1, (Instr.mapUpdate t (.map (some b)) (enc a) v).run P w = .ok () w1 ∧ OwnsV enc w1 b (upd g a v) ∧ w.grownBy w1 (some b) := by
  obtain ⟨es, clock, hm, h1, h2, h3, h4, h5⟩ := h
  obtain ⟨kl, hkl⟩ := hkey a
  rcases find_key (w := w) K hkey h1 a with ⟨hf, hno⟩ | ⟨j, e0, hf, hj, he⟩
  · refine ⟨setBlock w b (.map (es.push ⟨enc a, v, clock⟩) (clock + 1)), ?_, owns_push hinj hm h1 h2 h3 h4 h5 hno v, grown_block hm⟩
    simp [Instr.mapUpdate, run_underlying ht, MapKept.run_getObj_map hm, K.check w false hkl, hf, MapKept.run_setObj_map _ hm, Result.andThen, setBlock]
  · have hj' : es[j]? = some e0 := by simpa using hj
    have hjl : j < es.toList.length := (List.getElem?_eq_some_iff.1 hj).1
    have htl : (es.modify j (fun e => { e with key := enc a, val := v })).toList = es.toList.set j { e0 with key := enc a, val := v } := by rw [Array.toList_modify, modify_eq_set _ _ _ _ hj]
    have hset : ∀ i x, (es.toList.set j { e0 with key := enc a, val := v })[i]? = some x → (i = j ∧ x = { e0 with key := enc a, val := v }) ∨ (i ≠ j ∧ es.toList[i]? = some x) := by
      intro i x hx
      rw [List.getElem?_set] at hx
      by_cases h : j = i
      · rw [if_pos h, if_pos hjl] at hx
        exact .inl ⟨h.symm, (Option.some.inj hx).symm⟩
      · rw [if_neg h] at hx
        exact .inr ⟨fun e => h e.symm, hx⟩
    have huniq : ∀ i x, es.toList[i]? = some x → x.key = enc a → i = j := by
      intro i x hx hk
      have e1 : (es.toList.map (·.key))[i]? = some (enc a) := by rw [List.getElem?_map, hx]; simp [hk]
      have e2 : (es.toList.map (·.key))[j]? = some (enc a) := by rw [List.getElem?_map, hj]; simp [he]
      exact (List.getElem?_inj (by rw [List.length_map]; exact (List.getElem?_eq_some_iff.1 hx).1) h2).1 (e1.trans e2.symm)
    refine ⟨setBlock w b (.map (es.modify j (fun e => { e with key := enc a, val := v })) clock), ?_, ⟨_, _, heap_setBlock_same hm _, ?_, ?_, ?_, ?_, ?_⟩, grown_block hm⟩
    · simp [Instr.mapUpdate, run_underlying ht, MapKept.run_getObj_map hm, K.check w false hkl, hf, hj', he, K.stays w hkl, MapKept.run_setObj_map _ hm, Result.andThen, setBlock]
    · rw [htl]
      intro x hx
      obtain ⟨i, hi⟩ := List.getElem?_of_mem hx
      rcases hset i x hi with ⟨_, rfl⟩ | ⟨_, h⟩
      · exact ⟨a, rfl⟩
      · exact h1 x (List.mem_of_getElem? h)
    · rw [htl]
      have : (es.toList.set j { e0 with key := enc a, val := v }).map (·.key) = es.toList.map (·.key) := by
        apply List.ext_getElem?
        intro i
        rw [List.getElem?_map, List.getElem?_map, List.getElem?_set]
        by_cases h : j = i
        · subst h
          rw [if_pos rfl, if_pos hjl, hj]
          simp [he]
        · rw [if_neg h]
      rw [this]
      exact h2
    · intro c u
      unfold upd
      rw [htl]
      by_cases hc : c = a
      · rw [if_pos hc]
        constructor
        · intro e
          injection e with e
          refine ⟨{ e0 with key := enc a, val := v }, ?_, by rw [hc], e⟩
          exact List.mem_of_getElem? (i := j) (by rw [List.getElem?_set, if_pos rfl, if_pos hjl])
        · rintro ⟨x, hx, hxk, rfl⟩
          obtain ⟨i, hi⟩ := List.getElem?_of_mem hx
          rcases hset i x hi with ⟨_, rfl⟩ | ⟨hij, h⟩
          · rfl
          · exact absurd (huniq i x h (hxk.trans (by rw [hc]))) hij
      · rw [if_neg hc, h3 c u]
        constructor
        · rintro ⟨x, hx, hxk, hv⟩
          obtain ⟨i, hi⟩ := List.getElem?_of_mem hx
          refine ⟨x, List.mem_of_getElem? (i := i) ?_, hxk, hv⟩
          rw [List.getElem?_set]
          by_cases h : j = i
          · subst h
            rw [hj] at hi
            injection hi with hi
            rw [← hi, he] at hxk
            exact absurd (hinj _ _ hxk).symm hc
          · rw [if_neg h]; exact hi
        · rintro ⟨x, hx, hxk, hv⟩
          obtain ⟨i, hi⟩ := List.getElem?_of_mem hx
          rcases hset i x hi with ⟨_, rfl⟩ | ⟨hij, h⟩
          · exact absurd (hinj _ _ hxk).symm hc
          · exact ⟨x, List.mem_of_getElem? h, hxk, hv⟩
    · rw [htl]
      intro x hx
      obtain ⟨i, hi⟩ := List.getElem?_of_mem hx
      rcases hset i x hi with ⟨_, rfl⟩ | ⟨_, h⟩
      · exact h4 e0 (List.mem_of_getElem? hj)
      · exact h4 x (List.mem_of_getElem? h)
    · rw [htl]
      have : (es.toList.set j { e0 with key := enc a, val := v }).map (·.born) = es.toList.map (·.born) := by
        apply List.ext_getElem?
        intro i
        rw [List.getElem?_map, List.getElem?_map, List.getElem?_set]
        by_cases h : j = i
        · subst h
          rw [if_pos rfl, if_pos hjl, hj]
          simp
        · rw [if_neg h]
      rw [this]
      exact h5
/-- The way back from an entry to the store behind. -/
def BackV (P : Program) (enc : κ → Value) (t : TypeId) (b : Nat) (g : κ → Option Value) (a : κ) (w1 : World) (st : Nat) : Prop :=
  ∀ (w2 : World) (v : Value), w2.heap[b]? = w1.heap[b]? → ∃ w3, (Instr.entryStore t (.map (some b)) (goInt st) v).run P w2 = .ok () w3 ∧ OwnsV enc w3 b (upd g a v) ∧ w2.grownBy w3 (some b)
theorem store_back {es : Array MapEntry} {clock j : Nat} {e1 : MapEntry} {a : κ} (hinj : ∀ a c : κ, enc a = enc c → a = c) {w1 : World} (hm : w1.heap[b]? = some (.map es clock)) (h1 : ∀ x ∈ es.toList, ∃ a, x.key = enc a) (h2 : (es.toList.map (·.key)).Nodup) {g : κ → Option Value}
    (h3 : ∀ c v, c ≠ a → (g c = some v ↔ ∃ x ∈ es.toList, x.key = enc c ∧ x.val = v)) (h4 : ∀ x ∈ es.toList, x.born < clock) (h5 : (es.toList.map (·.born)).Nodup) (hj : es.toList[j]? = some e1) (he : e1.key = enc a) : BackV P enc t b g a w1 e1.born := by
  intro w2 v hb
  have hw2 : w2.heap[b]? = some (.map es clock) := hb.trans hm
  have hi : es.findIdx? (fun e => ((e.born : Nat) : Int) == ((e1.born : Nat) : Int)) = some j := by
    rw [Go.WideElems.findIdx_arr]
    exact Go.WideElems.findIdx_born h5 hj
  have htl : (es.modify j (fun e => { e with val := v })).toList = es.toList.set j { e1 with val := v } := by rw [Array.toList_modify, modify_eq_set _ _ _ _ hj]
  have hjl : j < es.toList.length := (List.getElem?_eq_some_iff.1 hj).1
  have hset : ∀ i x, (es.toList.set j { e1 with val := v })[i]? = some x → (i = j ∧ x = { e1 with val := v }) ∨ (i ≠ j ∧ es.toList[i]? = some x) := by
    intro i x hx
    rw [List.getElem?_set] at hx
    by_cases h : j = i
    · rw [if_pos h, if_pos hjl] at hx
      exact .inl ⟨h.symm, (Option.some.inj hx).symm⟩
    · rw [if_neg h] at hx
      exact .inr ⟨fun e => h e.symm, hx⟩
  have hmap : ∀ {β : Type} (f : MapEntry → β), f { e1 with val := v } = f e1 → (es.toList.set j { e1 with val := v }).map f = es.toList.map f := by
    intro β f hf
    apply List.ext_getElem?
    intro i
    rw [List.getElem?_map, List.getElem?_map, List.getElem?_set]
    by_cases h : j = i
    · subst h
      rw [if_pos rfl, if_pos hjl, hj]
      simp [hf]
    · rw [if_neg h]
  have huniq : ∀ i x, es.toList[i]? = some x → x.key = enc a → i = j := by
    intro i x hx hk
    have q1 : (es.toList.map (·.key))[i]? = some (enc a) := by rw [List.getElem?_map, hx]; simp [hk]
    have q2 : (es.toList.map (·.key))[j]? = some (enc a) := by rw [List.getElem?_map, hj]; simp [he]
    exact (List.getElem?_inj (by rw [List.length_map]; exact (List.getElem?_eq_some_iff.1 hx).1) h2).1 (q1.trans q2.symm)
  refine ⟨setBlock w2 b (.map (es.modify j (fun e => { e with val := v })) clock), ?_, ⟨_, _, heap_setBlock_same hw2 _, ?_, ?_, ?_, ?_, ?_⟩, grown_block hw2⟩
  · simp [Instr.entryStore, MapKept.run_getObj_map hw2, asInt, asIntOf, goInt, hi, MapKept.run_setObj_map _ hw2, Result.andThen, setBlock]
  · rw [htl]
    intro x hx
    obtain ⟨i, hi⟩ := List.getElem?_of_mem hx
    rcases hset i x hi with ⟨_, rfl⟩ | ⟨_, h⟩
    · exact ⟨a, he⟩
    · exact h1 x (List.mem_of_getElem? h)
  · rw [htl, hmap _ rfl]; exact h2
  · intro c u
    unfold upd
    rw [htl]
    by_cases hc : c = a
    · rw [if_pos hc]
      constructor
      · intro e
        injection e with e
        exact ⟨{ e1 with val := v }, List.mem_of_getElem? (i := j) (by rw [List.getElem?_set, if_pos rfl, if_pos hjl]), by rw [hc]; exact he, e⟩
      · rintro ⟨x, hx, hxk, rfl⟩
        obtain ⟨i, hi⟩ := List.getElem?_of_mem hx
        rcases hset i x hi with ⟨_, rfl⟩ | ⟨hij, h⟩
        · rfl
        · exact absurd (huniq i x h (hxk.trans (by rw [hc]))) hij
    · rw [if_neg hc, h3 c u hc]
      constructor
      · rintro ⟨x, hx, hxk, hv⟩
        obtain ⟨i, hi⟩ := List.getElem?_of_mem hx
        refine ⟨x, List.mem_of_getElem? (i := i) ?_, hxk, hv⟩
        rw [List.getElem?_set]
        by_cases h : j = i
        · subst h
          rw [hj] at hi
          injection hi with hi
          rw [← hi, he] at hxk
          exact absurd (hinj _ _ hxk).symm hc
        · rw [if_neg h]; exact hi
      · rintro ⟨x, hx, hxk, hv⟩
        obtain ⟨i, hi⟩ := List.getElem?_of_mem hx
        rcases hset i x hi with ⟨_, rfl⟩ | ⟨hij, h⟩
        · exact absurd (hinj _ _ (he.symm.trans hxk)).symm hc
        · exact ⟨x, List.mem_of_getElem? h, hxk, hv⟩
  · rw [htl]
    intro x hx
    obtain ⟨i, hi⟩ := List.getElem?_of_mem hx
    rcases hset i x hi with ⟨_, rfl⟩ | ⟨_, h⟩
    · exact h4 e1 (List.mem_of_getElem? hj)
    · exact h4 x (List.mem_of_getElem? h)
  · rw [htl, hmap _ rfl]; exact h5
/-- m[a] op= ..: the entry, and the store behind. -/
theorem entry_run (K : Keyed P k) (ht : P.underlying t = some (.map k E)) {z : Value} (hz : ∀ u : World, (zeroValue E).run P u = .ok z u) (hinj : ∀ a c : κ, enc a = enc c → a = c) (hkey : ∀ a : κ, ∃ l, keyOf P k (enc a) = some l)
    (h : OwnsV enc w b g) (a : κ) : ∃ (v0 : Value) (st : Nat) (w1 : World) (g1 : κ → Option Value), (Instr.mapEntry t (.map (some b)) (enc a)).run P w = .ok (.tuple #[v0, goInt st]) w1 ∧ w.grownBy w1 (some b) ∧ BackV P enc t b g a w1 st ∧ OwnsV enc w1 b g1 ∧ ∀ c, (g1 c).getD z = (g c).getD z := by
  obtain ⟨es, clock, hm, h1, h2, h3, h4, h5⟩ := h
  obtain ⟨kl, hkl⟩ := hkey a
  rcases find_key (w := w) K hkey h1 a with ⟨hf, hno⟩ | ⟨j, e0, hf, hj, he⟩
  · have hga : g a = none := by
      cases hga : g a with
      | none => rfl
      | some v => obtain ⟨x, hx, hxk, _⟩ := (h3 a v).1 hga; exact absurd hxk (hno x hx)
    refine ⟨z, clock, setBlock w b (.map (es.push ⟨enc a, z, clock⟩) (clock + 1)), upd g a z, ?_, grown_block hm, ?_, owns_push hinj hm h1 h2 h3 h4 h5 hno z, fun c => by unfold upd; by_cases q : c = a; (rw [if_pos q, q, hga]; rfl); rw [if_neg q]⟩
    · simp [Instr.mapEntry, run_underlying ht, MapKept.run_getObj_map hm, K.check w false hkl, hf, hz, MapKept.run_setObj_map _ hm, Result.andThen, setBlock]
    · refine store_back (e1 := ⟨enc a, z, clock⟩) (j := es.toList.length) hinj (heap_setBlock_same hm _) ?_ ?_ ?_ (push_lt h4 _ _) (push_nd h4 h5 _ _) (by rw [Array.toList_push, List.getElem?_append_right (Nat.le_refl _)]; simp) rfl
      · intro x hx
        rw [Array.toList_push] at hx
        rcases List.mem_append.1 hx with hx | hx
        · exact h1 x hx
        · rw [List.mem_singleton.1 hx]; exact ⟨a, rfl⟩
      · rw [Array.toList_push, List.map_append]
        refine List.nodup_append.2 ⟨h2, by simp, fun q hq c hc e1 => ?_⟩
        simp only [List.map_cons, List.map_nil, List.mem_singleton] at hc
        obtain ⟨x, hx, rfl⟩ := List.mem_map.1 hq
        exact hno x hx (e1.trans hc)
      · intro c u hc
        rw [h3 c u, Array.toList_push]
        constructor
        · rintro ⟨x, hx, hxk, hv⟩; exact ⟨x, List.mem_append_left _ hx, hxk, hv⟩
        · rintro ⟨x, hx, hxk, hv⟩
          rcases List.mem_append.1 hx with hx | hx
          · exact ⟨x, hx, hxk, hv⟩
          · rw [List.mem_singleton.1 hx] at hxk; exact absurd (hinj _ _ hxk).symm hc
  · have hj' : es[j]? = some e0 := by simpa using hj
    have hsame : es.modify j (fun e => { e with key := enc a }) = es := by
      apply Array.ext'
      rw [Array.toList_modify, modify_eq_set _ _ _ _ hj]
      have : ({ e0 with key := enc a } : MapEntry) = e0 := by rw [← he]
      rw [this]
      exact Go.WideElems.set_self _ _ _ hj
    refine ⟨e0.val, e0.born, setBlock w b (.map es clock), g, ?_, grown_block hm, ?_, ⟨es, clock, heap_setBlock_same hm _, h1, h2, h3, h4, h5⟩, fun c => rfl⟩
    · simp [Instr.mapEntry, run_underlying ht, MapKept.run_getObj_map hm, K.check w false hkl, hf, hj', he, K.stays w hkl, hsame, MapKept.run_setObj_map _ hm, Result.andThen, setBlock]
    · exact store_back hinj (heap_setBlock_same hm _) h1 h2 (fun c u _ => h3 c u) h4 h5 hj he
end
end
section
variable {P : Program} {κ : Type} [DecidableEq κ] {enc : κ → Value} {k : TypeId} {ops : Array Oper} {rest : List Oper} {o : Oper} {a : Act} {Q : Exit → Act → World → Prop}
theorem wpList_look {W : World} (hgd : o.guard = none) (m x : Operand) (t : TypeId) (ok : Bool) (ho : o.op = .lookup t m x ok) {E : TypeId} {b : Nat} {g : κ → Option Value} (K : Go.Maps.Keyed P k) (ht : P.underlying t = some (.map k E)) {z : Value} (hz : ∀ u : World, (zeroValue E).run P u = .ok z u)
    (hinj : ∀ a c : κ, enc a = enc c → a = c) (hkey : ∀ a : κ, ∃ l, keyOf P k (enc a) = some l) (h : OwnsV enc W b g) (c : κ) (hm : a.eval m = .map (some b)) (hx : a.eval x = enc c)
    (hK : wpList P ops Q rest (a.put o.dst (if ok then .tuple #[(g c).getD z, .bool (g c).isSome] else (g c).getD z)) W) :
    wpList P ops Q (o :: rest) a W := by
  refine wpList_plain hgd fun K' hK' => ?_
  have hrun := lookup_run K ht hz hinj hkey h c ok
  generalize (if ok then Value.tuple #[(g c).getD z, .bool (g c).isSome] else (g c).getD z) = r at hrun hK
  unfold Oper.wp
  simp [execOp, ho, hm, hx, hrun, Result.andThen]
  exact hK' _ _ hK
theorem wpList_ent {W : World} (hgd : o.guard = none) (m x : Operand) (t : TypeId) (ho : o.op = .mapEntry t m x) {E : TypeId} {b : Nat} {g : κ → Option Value} (K : Go.Maps.Keyed P k) (ht : P.underlying t = some (.map k E)) {z : Value} (hz : ∀ u : World, (zeroValue E).run P u = .ok z u)
    (hinj : ∀ a c : κ, enc a = enc c → a = c) (hkey : ∀ a : κ, ∃ l, keyOf P k (enc a) = some l) (h : OwnsV enc W b g) (c : κ) (hm : a.eval m = .map (some b)) (hx : a.eval x = enc c)
    (hK : ∀ (v0 : Value) (st : Nat) (w1 : World) (g1 : κ → Option Value), W.grownBy w1 (some b) → BackV P enc t b g c w1 st → OwnsV enc w1 b g1 → (∀ c, (g1 c).getD z = (g c).getD z) → wpList P ops Q rest (a.put o.dst (.tuple #[v0, .int .i64 (st : Int)])) w1) :
    wpList P ops Q (o :: rest) a W := by
  refine wpList_plain hgd fun K' hK' => ?_
  obtain ⟨v0, st, w1, g1, hrun, hg, hback, hown, hsame⟩ := entry_run K ht hz hinj hkey h c
  unfold Oper.wp
  simp [execOp, ho, hm, hx, hrun, Result.andThen]
  exact hK' _ _ (hK v0 st w1 g1 hg hback hown hsame)
theorem wpList_sto {W : World} (hgd : o.guard = none) (m x v : Operand) (t : TypeId) (ho : o.op = .entryStore t m x v) {b : Nat} {g : κ → Option Value} {c : κ} {w1 : World} {u : Value} {st : Nat}
    (hback : BackV P enc t b g c w1 st) (hm : a.eval m = .map (some b)) (hx : a.eval x = .int .i64 (st : Int)) (hv : a.eval v = u) (hb : W.heap[b]? = w1.heap[b]?)
    (hK : ∀ w3, OwnsV enc w3 b (upd g c u) → W.grownBy w3 (some b) → wpList P ops Q rest (a.put o.dst undef) w3) : wpList P ops Q (o :: rest) a W := by
  refine wpList_plain hgd fun K' hK' => ?_
  obtain ⟨w3, hrun, h1, h2⟩ := hback W u hb
  rw [show goInt (st : Int) = .int .i64 (st : Int) from rfl] at hrun
  unfold Oper.wp
  simp [execOp, ho, hm, hx, hv, hrun, Result.andThen]
  exact hK' _ _ (hK w3 h1 h2)
theorem wpList_upd {W : World} (hgd : o.guard = none) (m x v : Operand) (t : TypeId) (ho : o.op = .mapUpdate t m x v) {E : TypeId} {b : Nat} {g : κ → Option Value} (K : Go.Maps.Keyed P k) (ht : P.underlying t = some (.map k E))
    (hinj : ∀ a c : κ, enc a = enc c → a = c) (hkey : ∀ a : κ, ∃ l, keyOf P k (enc a) = some l) (h : OwnsV enc W b g) (c : κ) (u : Value) (hm : a.eval m = .map (some b)) (hx : a.eval x = enc c) (hv : a.eval v = u)
    (hK : ∀ w1, OwnsV enc w1 b (upd g c u) → W.grownBy w1 (some b) → wpList P ops Q rest (a.put o.dst undef) w1) : wpList P ops Q (o :: rest) a W := by
  refine wpList_plain hgd fun K' hK' => ?_
  obtain ⟨w1, hrun, h1, h2⟩ := update_run K ht hinj hkey h c u
  unfold Oper.wp
  simp [execOp, ho, hm, hx, hv, hrun, Result.andThen]
  exact hK' _ _ (hK w1 h1 h2)
end
end Go.Proofs.Ytlfcepdaicngjaa.MapV
