/- A map of the call's own from keys to rows of whole numbers: told as a list of keys and rows. Read, extended, counted. -/
import Derived.Test.YtgpmhdefpbmhjaaWMore
import Derived.Maps.Keyed
import Derived.WideKeyEntry
import Derived.ChangeMaps5
namespace Go.Proofs.Ytgpmhdefpbmhjaa.MapG
set_option linter.unusedVariables false
set_option linter.unusedSimpArgs false
set_option linter.unusedSectionVars false
open Go Go.RowKit Go.MapKept Go.ChangeMaps Go.Maps Go.Proofs.YtgpmhdefpbmhjaaW.PrintWords Go.Proofs.YtgpmhdefpbmhjaaW.PrintLast Go.Proofs.YtgpmhdefpbmhjaaW.PrintMore
section
variable {P : Program} {κ : Type} [DecidableEq κ] {enc : κ → Value} {k : TypeId}

def RI (w : World) (base : Nat) (v : Value) (zs : List Int) : Prop := w.ownsRow base 3 1 v zs.length (zs.map (Value.int .i64))
theorem RI_nil (w : World) (base : Nat) : RI w base (.slice none 0 0) [] := World.ownsRow_nil _ _ _ _
theorem RI_move {w w1 : World} {base : Nat} {v : Value} {zs : List Int} (h : RI w base v zs) (hm : ∀ k, v.ownBlock = some k → w1.heap[k]? = w.heap[k]?) : RI w1 base v zs := own_move h hm
theorem RI_grown {w w1 : World} {base : Nat} {v : Value} {zs : List Int} {row : Option Nat} (h : RI w base v zs) (hg : w.grownBy w1 row) (hne : ∀ k, v.ownBlock = some k → some k ≠ row) : RI w1 base v zs :=
  RI_move h (fun k hk => hg.block k (own_lt h k hk) (hne k hk))

def idx (L : List (κ × List Int)) (a : κ) : Option Nat := L.findIdx? (fun p => p.1 == a)
def getL (L : List (κ × List Int)) (a : κ) : List Int := match idx L a with | some j => ((L[j]?).map (·.2)).getD [] | none => []
def putL (L : List (κ × List Int)) (a : κ) (zs : List Int) : List (κ × List Int) := match idx L a with | some j => L.set j (a, zs) | none => L ++ [(a, zs)]

theorem idx_some {L : List (κ × List Int)} {a : κ} {j : Nat} (h : idx L a = some j) : ∃ p, L[j]? = some p ∧ p.1 = a := by
  unfold idx at h
  obtain ⟨hj, hp, _⟩ := List.findIdx?_eq_some_iff_getElem.1 h
  exact ⟨L[j], List.getElem?_eq_getElem hj, by simpa using hp⟩
theorem idx_none {L : List (κ × List Int)} {a : κ} (h : idx L a = none) : ∀ p ∈ L, p.1 ≠ a := by
  unfold idx at h
  intro p hp he
  have := (List.findIdx?_eq_none_iff.1 h) p hp
  simp [he] at this
theorem idx_of {L : List (κ × List Int)} {a : κ} {j : Nat} {p : κ × List Int} (hn : (L.map (·.1)).Nodup) (h : L[j]? = some p) (hp : p.1 = a) : idx L a = some j := by
  cases hi : idx L a with
  | none => exact absurd hp (idx_none hi p (List.mem_of_getElem? h))
  | some i =>
    obtain ⟨q, hq, hqa⟩ := idx_some hi
    have h1 : (L.map (·.1))[i]? = some a := by rw [List.getElem?_map, hq]; simp [hqa]
    have h2 : (L.map (·.1))[j]? = some a := by rw [List.getElem?_map, h]; simp [hp]
    have hi' := (List.getElem?_eq_some_iff.1 h1).1
    have hj' := (List.getElem?_eq_some_iff.1 h2).1
    rw [(List.getElem?_inj hi' hn).1 (h1.trans h2.symm)]
theorem idx_no {L : List (κ × List Int)} {a : κ} (h : ∀ p ∈ L, p.1 ≠ a) : idx L a = none := by
  cases hi : idx L a with
  | none => rfl
  | some i =>
    obtain ⟨q, hq, hqa⟩ := idx_some hi
    exact absurd hqa (h q (List.mem_of_getElem? hq))

/-- Block b of w is a map whose keys, in some order, are L's, each with a row of its own from base on. -/
def OwnsG (P : Program) (k : TypeId) (enc : κ → Value) (w : World) (b base : Nat) (L : List (κ × List Int)) : Prop :=
  ∃ es clock, w.heap[b]? = some (.map es clock) ∧ (∀ x ∈ es.toList, x.born < clock) ∧ (es.toList.map (·.born)).Nodup ∧ es.toList.map (·.key) = L.map (fun p => enc p.1) ∧ (L.map (·.1)).Nodup ∧ b < base ∧
    (∀ (j : Nat) (x : MapEntry) (p : κ × List Int), es.toList[j]? = some x → L[j]? = some p → RI w base x.val p.2) ∧
    (∀ (i j : Nat) (x y : MapEntry), es.toList[i]? = some x → es.toList[j]? = some y → i ≠ j → x.val.ownBlock = none ∨ x.val.ownBlock ≠ y.val.ownBlock)

theorem made (w : World) : OwnsG P k enc (w.alloc (.map #[] 0)) w.heap.size (w.heap.size + 1) ([] : List (κ × List Int)) :=
  ⟨#[], 0, (heap_alloc w _).1, by simp, by simp, by simp, by simp, by omega, by simp, by simp⟩

theorem OwnsG.grown {w w1 : World} {b base : Nat} {L : List (κ × List Int)} {row : Option Nat} (h : OwnsG P k enc w b base L) (hg : w.grownBy w1 row) (hb : some b ≠ row) (hr : ∀ g, row = some g → g < base) : OwnsG P k enc w1 b base L := by
  obtain ⟨es, clock, hm, h1, h2, h3, h4, h5, h6, h7⟩ := h
  have hlt : b < w.heap.size := (Array.getElem?_eq_some_iff.1 hm).1
  exact ⟨es, clock, (hg.block b hlt hb).trans hm, h1, h2, h3, h4, h5, fun j x p hx hp => RI_grown (h6 j x p hx hp) hg (fun q hq he => by have := own_base (h6 j x p hx hp) q hq; have := hr q he.symm; omega), h7⟩
theorem OwnsG.below {w w1 : World} {b base : Nat} {L : List (κ × List Int)} (h : OwnsG P k enc w b base L) (hb : Below w.heap.size w w1) : OwnsG P k enc w1 b base L :=
  h.grown (grown_of_below hb none) (by simp) (by simp)

/-- len(m). -/
theorem OwnsG.size {w : World} {b base : Nat} {L : List (κ × List Int)} (h : OwnsG P k enc w b base L) : ∃ es clock, w.heap[b]? = some (.map es clock) ∧ es.size = L.length := by
  obtain ⟨es, clock, hm, _, _, h3, _⟩ := h
  refine ⟨es, clock, hm, ?_⟩
  have := congrArg List.length h3
  simpa using this

theorem OwnsG.len {w : World} {b base : Nat} {L : List (κ × List Int)} {t e : TypeId} (h : OwnsG P k enc w b base L) (ht : P.underlying t = some (.map k e)) (ty : TypeId) : (Builtin.len_ #[t] ty #[.map (some b)]).run P w = .ok (.int .i64 (L.length : Nat)) w := by
  obtain ⟨es, clock, hm, hs⟩ := h.size
  simp [Builtin.len_, run_underlying ht, MapKept.run_getObj_map hm, goInt, Result.andThen, hs]
theorem grown_setBlock {w : World} {b : Nat} {es es' : Array MapEntry} {c c' : Nat} (hb : w.heap[b]? = some (.map es c)) : w.grownBy (setBlock w b (.map es' c')) (some b) :=
  ⟨rfl, rfl, rfl, by simp [setBlock], fun i _ hne => heap_setBlock_other hb _ (fun e => hne (by rw [e]))⟩

section
variable {t E : TypeId} {w : World} {b base : Nat} {L : List (κ × List Int)}
/-- Where a key stands: the entries' order is L's. -/
theorem key_at {es : Array MapEntry} (h3 : es.toList.map (·.key) = L.map (fun p => enc p.1)) (hinj : ∀ a c : κ, enc a = enc c → a = c) {j : Nat} {e0 : MapEntry} {a : κ} (hj : es.toList[j]? = some e0) (he : e0.key = enc a) : ∃ p, L[j]? = some p ∧ p.1 = a := by
  have h1 : (es.toList.map (·.key))[j]? = some (enc a) := by rw [List.getElem?_map, hj]; simp [he]
  rw [h3, List.getElem?_map] at h1
  cases hp : L[j]? with
  | none => rw [hp] at h1; simp at h1
  | some p => rw [hp] at h1; exact ⟨p, rfl, hinj _ _ (by simpa using h1)⟩
theorem keys_ok {es : Array MapEntry} (h3 : es.toList.map (·.key) = L.map (fun p => enc p.1)) (hkey : ∀ a : κ, ∃ l, keyOf P k (enc a) = some l) : ∀ e ∈ es.toList, ∃ l, keyOf P k e.key = some l := by
  intro e he
  have : e.key ∈ es.toList.map (·.key) := List.mem_map_of_mem he
  rw [h3] at this
  obtain ⟨p, _, hp⟩ := List.mem_map.1 this
  obtain ⟨l, hl⟩ := hkey p.1
  exact ⟨l, by rw [← hp]; exact hl⟩
theorem no_key {es : Array MapEntry} (h3 : es.toList.map (·.key) = L.map (fun p => enc p.1)) {a : κ} (h : ∀ e ∈ es.toList, e.key ≠ enc a) : ∀ p ∈ L, p.1 ≠ a := by
  intro p hp he
  have : enc p.1 ∈ L.map (fun p => enc p.1) := List.mem_map_of_mem (f := fun p : κ × List Int => enc p.1) hp
  rw [← h3] at this
  obtain ⟨e, hem, hee⟩ := List.mem_map.1 this
  exact h e hem (by rw [hee, he])

/-- m[a], where a may be none of its keys. -/
theorem lookup_run (K : Keyed P k) (ht : P.underlying t = some (.map k E)) (hz : ∀ u : World, (zeroValue E).run P u = .ok (.slice none 0 0) u) (hinj : ∀ a c : κ, enc a = enc c → a = c) (hkey : ∀ a : κ, ∃ l, keyOf P k (enc a) = some l)
    (h : OwnsG P k enc w b base L) (a : κ) : ∃ v, (Instr.lookup t (.map (some b)) (enc a) false).run P w = .ok v w ∧ RI w base v (getL L a) := by
  obtain ⟨es, clock, hm, h1, h2, h3, h4, h5, h6, h7⟩ := h
  obtain ⟨kl, hkl⟩ := hkey a
  rcases K.find w hkl es.toList (keys_ok h3 hkey) with ⟨hf, hno⟩ | ⟨j, e0, hf, hj, he⟩
  · refine ⟨.slice none 0 0, ?_, ?_⟩
    · simp [Instr.lookup, run_underlying ht, MapKept.run_getObj_map hm, K.check w _ hkl, hf, hz, Result.andThen]
    · rw [show getL L a = [] by unfold getL; rw [idx_no (no_key h3 hno)]]
      exact RI_nil _ _
  · obtain ⟨p, hp, hpa⟩ := key_at h3 hinj hj he
    refine ⟨e0.val, ?_, ?_⟩
    · simp [Instr.lookup, run_underlying ht, MapKept.run_getObj_map hm, K.check w _ hkl, hf, Result.andThen]
    · have : getL L a = p.2 := by unfold getL; rw [idx_of h4 hp hpa]; simp [hp]
      rw [this]
      exact h6 j e0 p hj hp

/-- m[a] = append(m[a], ..): the entry, and the store behind. -/
theorem entry_run (K : Keyed P k) (ht : P.underlying t = some (.map k E)) (hz : ∀ u : World, (zeroValue E).run P u = .ok (.slice none 0 0) u) (hinj : ∀ a c : κ, enc a = enc c → a = c) (hkey : ∀ a : κ, ∃ l, keyOf P k (enc a) = some l)
    (h : OwnsG P k enc w b base L) (hbs : base ≤ w.heap.size) (a : κ) : ∃ (v0 : Value) (st : Nat) (w1 : World), (Instr.mapEntry t (.map (some b)) (enc a)).run P w = .ok (.tuple #[v0, goInt st]) w1 ∧ w.grownBy w1 (some b) ∧ RI w1 base v0 (getL L a) ∧
      ∀ (w2 : World) (v' : Value) (zs' : List Int), w1.grownBy w2 v0.ownBlock → RI w2 base v' zs' → (v'.ownBlock = v0.ownBlock ∨ ∃ g, v'.ownBlock = some g ∧ w1.heap.size ≤ g) →
        ∃ w3, (Instr.entryStore t (.map (some b)) (goInt st) v').run P w2 = .ok () w3 ∧ OwnsG P k enc w3 b base (putL L a zs') ∧ w2.grownBy w3 (some b) := by
  obtain ⟨es, clock, hm, h1, h2, h3, h4, h5, h6, h7⟩ := h
  obtain ⟨kl, hkl⟩ := hkey a
  have hlen : es.toList.length = L.length := by simpa using congrArg List.length h3
  have hlt : b < w.heap.size := (Array.getElem?_eq_some_iff.1 hm).1
  rcases K.find w hkl es.toList (keys_ok h3 hkey) with ⟨hf, hno⟩ | ⟨j, e0, hf, hj, he⟩
  · have hn := no_key h3 hno
    have hidx := idx_no hn
    refine ⟨.slice none 0 0, clock, setBlock w b (.map (es.push ⟨enc a, .slice none 0 0, clock⟩) (clock + 1)), ?_, grown_setBlock hm, ?_, ?_⟩
    · simp [Instr.mapEntry, run_underlying ht, MapKept.run_getObj_map hm, K.check w false hkl, hf, hz, MapKept.run_setObj_map _ hm, Result.andThen, setBlock]
    · rw [show getL L a = [] by unfold getL; rw [hidx]]
      exact RI_nil _ _
    · intro w2 v' zs' hg hr hloc
      have hw1 : (setBlock w b (.map (es.push ⟨enc a, .slice none 0 0, clock⟩) (clock + 1))).heap[b]? = some (.map (es.push ⟨enc a, .slice none 0 0, clock⟩) (clock + 1)) := heap_setBlock_same hm _
      have hw2 : w2.heap[b]? = some (.map (es.push ⟨enc a, .slice none 0 0, clock⟩) (clock + 1)) := (hg.block b (by simpa [setBlock] using hlt) (by simp [Value.ownBlock])).trans hw1
      have hi : (es.push ⟨enc a, .slice none 0 0, clock⟩).findIdx? (fun e => ((e.born : Nat) : Int) == ((clock : Nat) : Int)) = some es.size := by
        rw [Go.WideElems.findIdx_arr]
        have := Go.WideElems.findIdx_born (l := (es.push ⟨enc a, .slice none 0 0, clock⟩).toList) (j := es.size) (e0 := ⟨enc a, .slice none 0 0, clock⟩) (by
          simp only [Array.toList_push, List.map_append, List.map_cons, List.map_nil]
          refine List.nodup_append.2 ⟨h2, by simp, fun q hq c hc e1 => ?_⟩
          simp only [List.mem_singleton] at hc
          obtain ⟨x, hx, rfl⟩ := List.mem_map.1 hq
          have := h1 x hx
          omega) (by simp)
        exact this
      have hmod : (es.push ⟨enc a, .slice none 0 0, clock⟩).modify es.size (fun e => { e with val := v' }) = es.push ⟨enc a, v', clock⟩ := by
        apply Array.ext'
        rw [Array.toList_modify, Array.toList_push, Array.toList_push, ← Array.length_toList, Go.WideElems.modify_last]
      refine ⟨setBlock w2 b (.map (es.push ⟨enc a, v', clock⟩) (clock + 1)), ?_, ?_, grown_setBlock hw2⟩
      · simp [Instr.entryStore, MapKept.run_getObj_map hw2, asInt, asIntOf, goInt, hi, hmod, MapKept.run_setObj_map _ hw2, Result.andThen, setBlock]
      · have hput : putL L a zs' = L ++ [(a, zs')] := by unfold putL; rw [hidx]
        rw [hput]
        have hold : ∀ (j : Nat) (x : MapEntry) (p : κ × List Int), es.toList[j]? = some x → L[j]? = some p → RI (setBlock w2 b (.map (es.push ⟨enc a, v', clock⟩) (clock + 1))) base x.val p.2 := by
          intro j x p hx hp
          have h0 := h6 j x p hx hp
          refine RI_move h0 (fun q hq => ?_)
          have hqb := own_base h0 q hq
          have hql := own_lt h0 q hq
          rw [heap_setBlock_other hw2 _ (by omega), hg.block q (by simpa [setBlock] using hql) (by simp [Value.ownBlock]), heap_setBlock_other hm _ (by omega)]
        have hnew : RI (setBlock w2 b (.map (es.push ⟨enc a, v', clock⟩) (clock + 1))) base v' zs' := RI_move hr (fun q hq => by
          have hqb := own_base hr q hq
          rw [heap_setBlock_other hw2 _ (by omega)])
        have hfar : ∀ (j : Nat) (x : MapEntry), es.toList[j]? = some x → x.val.ownBlock = none ∨ x.val.ownBlock ≠ v'.ownBlock := by
          intro j x hx
          cases hxo : x.val.ownBlock with
          | none => exact .inl rfl
          | some q =>
            refine .inr fun e => ?_
            have hjL : j < L.length := by have := (List.getElem?_eq_some_iff.1 hx).1; omega
            have hq := own_lt (h6 j x L[j] hx (List.getElem?_eq_getElem hjL)) q hxo
            rcases hloc with h | ⟨g, h, hle⟩
            · rw [h] at e; simp [Value.ownBlock] at e
            · rw [h] at e
              injection e with e
              simp [setBlock] at hle
              omega
        refine ⟨_, _, heap_setBlock_same hw2 _, ?_, ?_, ?_, ?_, h5, ?_, ?_⟩
        · intro x hx
          rw [Array.toList_push] at hx
          rcases List.mem_append.1 hx with hx | hx
          · have := h1 x hx; omega
          · rw [List.mem_singleton.1 hx]; simp
        · rw [Array.toList_push, List.map_append]
          refine List.nodup_append.2 ⟨h2, by simp, fun q hq c hc e1 => ?_⟩
          simp only [List.map_cons, List.map_nil, List.mem_singleton] at hc
          obtain ⟨x, hx, rfl⟩ := List.mem_map.1 hq
          have := h1 x hx
          omega
        · rw [Array.toList_push, List.map_append, h3, List.map_append]; simp
        · rw [List.map_append]
          refine List.nodup_append.2 ⟨h4, by simp, fun q hq c hc e1 => ?_⟩
          simp only [List.map_cons, List.map_nil, List.mem_singleton] at hc
          obtain ⟨p, hp, rfl⟩ := List.mem_map.1 hq
          exact hn p hp (e1.trans hc)
        · intro j x p hx hp
          rw [Array.toList_push] at hx
          rcases Nat.lt_or_ge j L.length with hjl | hjl
          · rw [List.getElem?_append_left (by omega)] at hx
            rw [List.getElem?_append_left hjl] at hp
            exact hold j x p hx hp
          · rw [List.getElem?_append_right (by omega)] at hx
            rw [List.getElem?_append_right hjl] at hp
            have hj0 : j - L.length = 0 := by
              have := (List.getElem?_eq_some_iff.1 hp).1
              simp at this
              omega
            rw [hlen, hj0] at hx
            rw [hj0] at hp
            simp only [List.getElem?_cons_zero, Option.some.injEq] at hx hp
            rw [← hx, ← hp]
            exact hnew
        · intro i j x y hx hy hij
          rw [Array.toList_push] at hx hy
          have last : ∀ q z, (es.toList ++ [(⟨enc a, v', clock⟩ : MapEntry)])[q]? = some z → es.toList[q]? = some z ∨ (q = es.toList.length ∧ z = ⟨enc a, v', clock⟩) := by
            intro q z hq
            rcases Nat.lt_or_ge q es.toList.length with hl | hl
            · rw [List.getElem?_append_left hl] at hq; exact .inl hq
            · rw [List.getElem?_append_right hl] at hq
              have hq0 : q - es.toList.length = 0 := by
                have := (List.getElem?_eq_some_iff.1 hq).1
                simp at this
                omega
              rw [hq0] at hq
              simp only [List.getElem?_cons_zero, Option.some.injEq] at hq
              exact .inr ⟨by omega, hq.symm⟩
          rcases last i x hx with hx | ⟨hi1, rfl⟩
          · rcases last j y hy with hy | ⟨hj1, rfl⟩
            · exact h7 i j x y hx hy hij
            · exact hfar i x hx
          · rcases last j y hy with hy | ⟨hj1, rfl⟩
            · rcases hfar j y hy with h | h
              · cases hv : v'.ownBlock with
                | none => exact .inl rfl
                | some q => right; rw [h]; simp
              · right; exact fun e => h e.symm
            · omega
  · obtain ⟨p, hp, hpa⟩ := key_at h3 hinj hj he
    have hidx := idx_of h4 hp hpa
    have hj' : es[j]? = some e0 := by simpa using hj
    have hsame : es.modify j (fun e => { e with key := enc a }) = es := by
      apply Array.ext'
      rw [Array.toList_modify, modify_eq_set _ _ _ _ hj]
      have : ({ e0 with key := enc a } : MapEntry) = e0 := by rw [← he]
      rw [this]
      exact Go.WideElems.set_self _ _ _ hj
    have hget : getL L a = p.2 := by unfold getL; rw [hidx]; simp [hp]
    have hown := h6 j e0 p hj hp
    refine ⟨e0.val, e0.born, setBlock w b (.map es clock), ?_, grown_setBlock hm, ?_, ?_⟩
    · simp [Instr.mapEntry, run_underlying ht, MapKept.run_getObj_map hm, K.check w false hkl, hf, hj', he, K.stays w hkl, hsame, MapKept.run_setObj_map _ hm, Result.andThen, setBlock]
    · rw [hget]
      exact RI_move hown (fun q hq => heap_setBlock_other hm _ (by have := own_base hown q hq; omega))
    · intro w2 v' zs' hg hr hloc
      have hne : some b ≠ e0.val.ownBlock := fun e => by have := own_base hown b e.symm; omega
      have hw2 : w2.heap[b]? = some (.map es clock) := (hg.block b (by simpa [setBlock] using hlt) hne).trans (heap_setBlock_same hm _)
      have hi : es.findIdx? (fun e => ((e.born : Nat) : Int) == ((e0.born : Nat) : Int)) = some j := by
        rw [Go.WideElems.findIdx_arr]
        exact Go.WideElems.findIdx_born h2 hj
      have htl : (es.modify j (fun e => { e with val := v' })).toList = es.toList.set j { e0 with val := v' } := by rw [Array.toList_modify, modify_eq_set _ _ _ _ hj]
      have hjl : j < es.toList.length := (List.getElem?_eq_some_iff.1 hj).1
      refine ⟨setBlock w2 b (.map (es.modify j (fun e => { e with val := v' })) clock), ?_, ?_, grown_setBlock hw2⟩
      · simp [Instr.entryStore, MapKept.run_getObj_map hw2, asInt, asIntOf, goInt, hi, MapKept.run_setObj_map _ hw2, Result.andThen, setBlock]
      · have hput : putL L a zs' = L.set j (a, zs') := by unfold putL; rw [hidx]
        rw [hput]
        have hnew : RI (setBlock w2 b (.map (es.modify j (fun e => { e with val := v' })) clock)) base v' zs' := RI_move hr (fun q hq => by
          have hqb := own_base hr q hq
          rw [heap_setBlock_other hw2 _ (by omega)])
        have hset : ∀ i x, (es.toList.set j { e0 with val := v' })[i]? = some x → (i = j ∧ x = { e0 with val := v' }) ∨ (i ≠ j ∧ es.toList[i]? = some x) := by
          intro i x hx
          rw [List.getElem?_set] at hx
          by_cases h : j = i
          · rw [if_pos h, if_pos hjl] at hx
            exact .inl ⟨h.symm, (Option.some.inj hx).symm⟩
          · rw [if_neg h] at hx
            exact .inr ⟨fun e => h e.symm, hx⟩
        have hold : ∀ (i : Nat) (x : MapEntry) (q : κ × List Int), i ≠ j → es.toList[i]? = some x → L[i]? = some q → RI (setBlock w2 b (.map (es.modify j (fun e => { e with val := v' })) clock)) base x.val q.2 := by
          intro i x q hij hx hq
          have h0 := h6 i x q hx hq
          refine RI_move h0 (fun g hgo => ?_)
          have hqb := own_base h0 g hgo
          have hql := own_lt h0 g hgo
          have hfar : some g ≠ e0.val.ownBlock := by
            rcases h7 i j x e0 hx hj hij with h | h
            · rw [h] at hgo; cases hgo
            · rw [← hgo]; exact h
          rw [heap_setBlock_other hw2 _ (by omega), hg.block g (by simpa [setBlock] using hql) hfar, heap_setBlock_other hm _ (by omega)]
        have hfar : ∀ (i : Nat) (x : MapEntry), i ≠ j → es.toList[i]? = some x → x.val.ownBlock = none ∨ x.val.ownBlock ≠ v'.ownBlock := by
          intro i x hij hx
          cases hxo : x.val.ownBlock with
          | none => exact .inl rfl
          | some q =>
            refine .inr fun e => ?_
            have hiL : i < L.length := by have := (List.getElem?_eq_some_iff.1 hx).1; omega
            have hq := own_lt (h6 i x L[i] hx (List.getElem?_eq_getElem hiL)) q hxo
            rcases hloc with h | ⟨g, h, hle⟩
            · rcases h7 i j x e0 hx hj hij with h8 | h8
              · rw [h8] at hxo; cases hxo
              · exact h8 (by rw [hxo, e, h])
            · rw [h] at e
              injection e with e
              simp [setBlock] at hle
              omega
        have hLset : ∀ i q, (L.set j (a, zs'))[i]? = some q → (i = j ∧ q = (a, zs')) ∨ (i ≠ j ∧ L[i]? = some q) := by
          intro i q hq
          rw [List.getElem?_set] at hq
          by_cases h : j = i
          · rw [if_pos h, if_pos (by omega)] at hq
            exact .inl ⟨h.symm, (Option.some.inj hq).symm⟩
          · rw [if_neg h] at hq
            exact .inr ⟨fun e => h e.symm, hq⟩
        have hmap : ∀ {β : Type} (f : MapEntry → β), f { e0 with val := v' } = f e0 → (es.toList.set j { e0 with val := v' }).map f = es.toList.map f := by
          intro β f hf
          apply List.ext_getElem?
          intro i
          rw [List.getElem?_map, List.getElem?_map, List.getElem?_set]
          by_cases h : j = i
          · subst h
            rw [if_pos rfl, if_pos hjl, hj]
            simp [hf]
          · rw [if_neg h]
        have hmapL : ∀ {β : Type} (f : κ × List Int → β), f (a, zs') = f p → (L.set j (a, zs')).map f = L.map f := by
          intro β f hf
          apply List.ext_getElem?
          intro i
          rw [List.getElem?_map, List.getElem?_map, List.getElem?_set]
          by_cases h : j = i
          · subst h
            rw [if_pos rfl, if_pos (by omega), hp]
            simp [hf]
          · rw [if_neg h]
        refine ⟨_, _, heap_setBlock_same hw2 _, ?_, ?_, ?_, ?_, h5, ?_, ?_⟩
        · rw [htl]
          intro x hx
          obtain ⟨i, hi⟩ := List.getElem?_of_mem hx
          rcases hset i x hi with ⟨_, rfl⟩ | ⟨_, h⟩
          · exact h1 e0 (List.mem_of_getElem? hj)
          · exact h1 x (List.mem_of_getElem? h)
        · rw [htl, hmap _ rfl]; exact h2
        · rw [htl, hmap _ rfl, h3, hmapL _ (by rw [hpa])]
        · rw [hmapL _ (by rw [hpa])]; exact h4
        · rw [htl]
          intro i x q hx hq
          rcases hset i x hx with ⟨hi1, rfl⟩ | ⟨hi1, hx1⟩
          · rcases hLset i q hq with ⟨_, rfl⟩ | ⟨hi2, _⟩
            · exact hnew
            · exact absurd hi1 hi2
          · rcases hLset i q hq with ⟨hi2, _⟩ | ⟨_, hq1⟩
            · exact absurd hi2 hi1
            · exact hold i x q hi1 hx1 hq1
        · rw [htl]
          intro i i' x y hx hy hii
          rcases hset i x hx with ⟨hi1, rfl⟩ | ⟨hi1, hx1⟩
          · rcases hset i' y hy with ⟨hi2, rfl⟩ | ⟨hi2, hy1⟩
            · omega
            · rcases hfar i' y hi2 hy1 with h | h
              · cases hv : v'.ownBlock with
                | none => exact .inl (by first | exact hv | rfl)
                | some q => right; rw [h]; simp
              · right; exact fun e => h e.symm
          · rcases hset i' y hy with ⟨hi2, rfl⟩ | ⟨hi2, hy1⟩
            · exact hfar i x hi1 hx1
            · exact h7 i i' x y hx1 hy1 hii
end
end
section
variable {P : Program} {κ : Type} [DecidableEq κ] {enc : κ → Value} {k : TypeId} {ops : Array Oper} {rest : List Oper} {o : Oper} {a : Act} {Q : Exit → Act → World → Prop}
/-- The way back from an entry to the store behind. -/
def Back (P : Program) (k : TypeId) (enc : κ → Value) (t : TypeId) (b base : Nat) (L : List (κ × List Int)) (x : κ) (w1 : World) (v0 : Value) (st : Nat) : Prop :=
  ∀ (w2 : World) (v' : Value) (zs' : List Int), w1.grownBy w2 v0.ownBlock → RI w2 base v' zs' → (v'.ownBlock = v0.ownBlock ∨ ∃ g, v'.ownBlock = some g ∧ w1.heap.size ≤ g) →
    ∃ w3, (Instr.entryStore t (.map (some b)) (goInt st) v').run P w2 = .ok () w3 ∧ OwnsG P k enc w3 b base (putL L x zs') ∧ w2.grownBy w3 (some b)
theorem wpList_entry {W : World} (hgd : o.guard = none) (m x : Operand) (t : TypeId) (ho : o.op = .mapEntry t m x) {E : TypeId} {b base : Nat} {L : List (κ × List Int)} (K : Go.Maps.Keyed P k) (ht : P.underlying t = some (.map k E)) (hz : ∀ u : World, (zeroValue E).run P u = .ok (.slice none 0 0) u)
    (hinj : ∀ a c : κ, enc a = enc c → a = c) (hkey : ∀ a : κ, ∃ l, keyOf P k (enc a) = some l) (h : OwnsG P k enc W b base L) (hbs : base ≤ W.heap.size) (c : κ) (hm : a.eval m = .map (some b)) (hx : a.eval x = enc c)
    (hK : ∀ (v0 : Value) (st : Nat) (w1 : World), W.grownBy w1 (some b) → RI w1 base v0 (getL L c) → Back P k enc t b base L c w1 v0 st → wpList P ops Q rest (a.put o.dst (.tuple #[v0, .int .i64 (st : Int)])) w1) :
    wpList P ops Q (o :: rest) a W := by
  refine wpList_plain hgd fun K' hK' => ?_
  obtain ⟨v0, st, w1, hrun, hg, hr, hback⟩ := entry_run K ht hz hinj hkey h hbs c
  unfold Oper.wp
  simp [execOp, ho, hm, hx, hrun, Result.andThen]
  exact hK' _ _ (hK v0 st w1 hg hr hback)
theorem wpList_store {W : World} (hgd : o.guard = none) (m x v : Operand) (t : TypeId) (ho : o.op = .entryStore t m x v) {b base : Nat} {L : List (κ × List Int)} {c : κ} {w1 : World} {v0 v' : Value} {st : Nat} {zs' : List Int}
    (hback : Back P k enc t b base L c w1 v0 st) (hm : a.eval m = .map (some b)) (hx : a.eval x = .int .i64 (st : Int)) (hv : a.eval v = v') (hg : w1.grownBy W v0.ownBlock) (hr : RI W base v' zs') (hloc : v'.ownBlock = v0.ownBlock ∨ ∃ g, v'.ownBlock = some g ∧ w1.heap.size ≤ g)
    (hK : ∀ w3, OwnsG P k enc w3 b base (putL L c zs') → W.grownBy w3 (some b) → wpList P ops Q rest (a.put o.dst undef) w3) : wpList P ops Q (o :: rest) a W := by
  refine wpList_plain hgd fun K' hK' => ?_
  obtain ⟨w3, hrun, h1, h2⟩ := hback W v' zs' hg hr hloc
  rw [show goInt (st : Int) = .int .i64 (st : Int) from rfl] at hrun
  unfold Oper.wp
  simp [execOp, ho, hm, hx, hv, hrun, Result.andThen]
  exact hK' _ _ (hK w3 h1 h2)
end
end Go.Proofs.Ytgpmhdefpbmhjaa.MapG
