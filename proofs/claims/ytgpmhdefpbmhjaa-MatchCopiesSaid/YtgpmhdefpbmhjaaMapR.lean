/- Ranging over a map of rows, looking a key up whatever has grown since, and what the rows' lengths come to. -/
import Derived.Test.YtgpmhdefpbmhjaaMapG
import Derived.Maps.RangeWalk
namespace Go.Proofs.Ytgpmhdefpbmhjaa.MapG
set_option linter.unusedVariables false
set_option linter.unusedSimpArgs false
set_option linter.unusedSectionVars false
open Go Go.RowKit Go.MapKept Go.ChangeMaps Go.Maps Go.Proofs.YtgpmhdefpbmhjaaW.PrintWords Go.Proofs.YtgpmhdefpbmhjaaW.PrintLast Go.Proofs.YtgpmhdefpbmhjaaW.PrintMore
section
variable {P : Program} {κ : Type} [DecidableEq κ] {enc : κ → Value} {k : TypeId} {w : World} {b base r : Nat} {L : List (κ × List Int)}

def lenV : Value → Nat
  | .slice _ n _ => n
  | _ => 0
theorem RI_slice {v : Value} {zs : List Int} (h : RI w base v zs) : ∃ A c, v = .slice A zs.length c := by
  rcases h.2 with ⟨rfl, h0⟩ | ⟨g, cap, cur, rfl, _⟩
  · exact ⟨none, 0, by rw [h0]⟩
  · exact ⟨_, _, rfl⟩
theorem RI_len {v : Value} {zs : List Int} (h : RI w base v zs) : lenV v = zs.length := by
  obtain ⟨A, c, rfl⟩ := RI_slice h
  rfl
/-- All rows' lengths. -/
def total (L : List (κ × List Int)) : Nat := (L.map (·.2.length)).sum
/-- A range under way: so many entries are left, of so many numbers. -/
def RangeG (P : Program) (k : TypeId) (enc : κ → Value) (w : World) (b base r : Nat) (L : List (κ × List Int)) (cnt left : Nat) : Prop :=
  OwnsG P k enc w b base L ∧ ∃ es clock since seen c0, w.heap[b]? = some (.map es clock) ∧ w.heap[r]? = some (.mapIter (some b) since seen c0) ∧ (∀ x ∈ es.toList, x.born < since) ∧ since ≤ c0 ∧ since ≤ clock ∧
    (leftOf es seen).size = cnt ∧ ((leftOf es seen).toList.map (fun x => lenV x.val)).sum = left
theorem RangeG.left_eq {cnt left : Nat} (h : RangeG P k enc w b base r L cnt left) : w.rangeLeft b r = cnt := by
  obtain ⟨_, es, clock, since, seen, c0, hb, hr, _, _, _, hc, _⟩ := h
  simp only [World.rangeLeft, hb, hr]
  exact hc
theorem lens {es : Array MapEntry} (h3 : es.toList.map (·.key) = L.map (fun p => enc p.1)) (h6 : ∀ (j : Nat) (x : MapEntry) (p : κ × List Int), es.toList[j]? = some x → L[j]? = some p → RI w base x.val p.2) :
    es.toList.map (fun x => lenV x.val) = L.map (·.2.length) := by
  have hlen : es.toList.length = L.length := by simpa using congrArg List.length h3
  apply List.ext_getElem
  · simpa using hlen
  · intro j h1 h2
    simp only [List.length_map] at h1 h2
    rw [List.getElem_map, List.getElem_map]
    exact RI_len (h6 j _ _ (List.getElem?_eq_getElem h1) (List.getElem?_eq_getElem h2))
theorem range_run {t e : TypeId} (h : OwnsG P k enc w b base L) (ht : P.underlying t = some (.map k e)) :
    ∃ w', (Instr.range t (.map (some b))).run P w = .ok (.pointer (some ⟨w.heap.size, 0, none⟩)) w' ∧ RangeG P k enc w' b base w.heap.size L L.length (total L) ∧ Below w.heap.size w w' ∧ w'.heap.size = w.heap.size + 1 := by
  have h' := h
  obtain ⟨es, clock, hm, h1, h2, h3, h4, h5, h6, h7⟩ := h
  have hlt : b < w.heap.size := (Array.getElem?_eq_some_iff.1 hm).1
  have hal := below_alloc (Below.refl w.heap.size w) (.mapIter (some b) clock #[] clock)
  have hl0 : leftOf es #[] = es := by unfold leftOf; simp
  refine ⟨_, run_range_map w t k e b es clock ht hm, ⟨h'.below hal, es, clock, clock, #[], clock, ((MapKept.heap_alloc w _).2 b hlt).trans hm, (MapKept.heap_alloc w _).1, h1, Nat.le_refl _, Nat.le_refl _, ?_, ?_⟩, hal, by simp⟩
  · rw [hl0]; simpa using congrArg List.length h3
  · rw [hl0, lens h3 h6]; rfl
theorem sum_filter {l : List MapEntry} (f : MapEntry → Nat) (q : MapEntry → Bool) {e : MapEntry} (he : e ∈ l) (hq : q e = true) (hn : (l.map (·.born)).Nodup) :
    ((l.filter q).map f).sum = f e + ((l.filter (fun x => q x && !(x.born == e.born))).map f).sum := by
  induction l with
  | nil => cases he
  | cons x l ih =>
    rw [List.map_cons, List.nodup_cons] at hn
    rcases List.mem_cons.1 he with rfl | he'
    · have : l.filter (fun x => q x && !(x.born == e.born)) = l.filter q := List.filter_congr (fun y hy => by
        have : y.born ≠ e.born := fun hh => hn.1 (List.mem_map.2 ⟨y, hy, hh⟩)
        simp [this])
      rw [List.filter_cons_of_pos hq, List.filter_cons_of_neg (by simp), this]
      simp
    · have hne : x.born ≠ e.born := fun hh => hn.1 (List.mem_map.2 ⟨e, he', hh.symm⟩)
      have h2 := ih he' hn.2
      cases hx : q x with
      | true =>
        rw [List.filter_cons_of_pos hx, List.filter_cons_of_pos (by simp [hx, hne])]
        simp only [List.map_cons, List.sum_cons]
        omega
      | false => rw [List.filter_cons_of_neg (by simp [hx]), List.filter_cons_of_neg (by simp [hx])]; exact h2
theorem next_run {cnt left : Nat} (h : RangeG P k enc w b base r L cnt left) (ty : TypeId) :
    (cnt = 0 ∧ left = 0 ∧ (Instr.next (.pointer (some ⟨r, 0, none⟩)) false ty).run P w = .ok (.tuple #[.bool false]) w) ∨
    ∃ key A n c w' cnt' left', left = n + left' ∧ cnt' < cnt ∧ (Instr.next (.pointer (some ⟨r, 0, none⟩)) false ty).run P w = .ok (.tuple #[.bool true, key, .slice A n c]) w' ∧
      RangeG P k enc w' b base r L cnt' left' ∧ w.grownBy w' (some r) ∧ w'.heap.size = w.heap.size ∧ (Instr.entry (.pointer (some ⟨r, 0, none⟩))).run P w' = .ok (.tuple #[key, .slice A n c]) w' := by
  obtain ⟨ho, es, clock, since, seen, c0, hb, hr, hold, hsc, hsk, hc, hl⟩ := h
  have hne : r ≠ b := fun e => by rw [e, hb] at hr; cases hr
  have ho' := ho
  obtain ⟨es1, clock1, hm, h1, h2, h3, h4, h5, h6, h7⟩ := ho
  obtain ⟨rfl, rfl⟩ : es1 = es ∧ clock1 = clock := by rw [hb] at hm; injection hm with hm; injection hm with a1 a2; exact ⟨a1.symm, a2.symm⟩
  rcases run_next_at (P := P) w ty r b since c0 seen es1 clock1 hr hb hold hsc with ⟨h0, hrun⟩ | ⟨e, he, w1, hal, hrun⟩
  · refine .inl ⟨by omega, ?_, hrun⟩
    have : leftOf es1 seen = #[] := Array.eq_empty_of_size_eq_zero h0
    rw [← hl, this]; rfl
  · obtain ⟨hem, hes⟩ := mem_left he
    obtain ⟨j, hj⟩ := List.getElem?_of_mem hem
    have hlen : es1.toList.length = L.length := by simpa using congrArg List.length h3
    have hjL : j < L.length := by have := (List.getElem?_eq_some_iff.1 hj).1; omega
    obtain ⟨A, c, hv⟩ := RI_slice (h6 j e _ hj (List.getElem?_eq_getElem hjL))
    have hr1 : w1.heap[r]? = some (.mapIter (some b) since seen c0) := by rcases hal with rfl | rfl <;> exact hr
    have hb1 : w1.heap[b]? = some (.map es1 clock1) := by rcases hal with rfl | rfl <;> exact hb
    have hset := heap_set (o' := .mapIter (some b) since (seen.push e.born) clock1) hr1
    have hb' : (setBlock w1 r (.mapIter (some b) since (seen.push e.born) clock1)).heap[b]? = some (.map es1 clock1) := (hset.2 b (fun e1 => hne e1.symm)).trans hb1
    have hgr : w.grownBy (setBlock w1 r (.mapIter (some b) since (seen.push e.born) clock1)) (some r) := by
      rcases hal with rfl | rfl <;> exact ⟨rfl, rfl, rfl, by simp [setBlock], fun i _ hi => hset.2 i (fun e1 => hi (by rw [e1]))⟩
    have hsum := sum_filter (l := es1.toList) (fun x => lenV x.val) (fun x => !seen.contains x.born) hem (by rw [hes]; rfl) h2
    have hf1 : (leftOf es1 seen).toList = es1.toList.filter (fun x => !seen.contains x.born) := by unfold leftOf; exact Array.toList_filter ..
    have hf2 : (leftOf es1 (seen.push e.born)).toList = es1.toList.filter (fun x => !seen.contains x.born && !(x.born == e.born)) := by
      unfold leftOf
      rw [Array.toList_filter]
      refine List.filter_congr (fun x _ => ?_)
      rw [contains_push, Bool.not_or]
    have hown : OwnsG P k enc (setBlock w1 r (.mapIter (some b) since (seen.push e.born) clock1)) b base L := by
      refine ⟨es1, clock1, hb', h1, h2, h3, h4, h5, fun i x p hx hp => ?_, h7⟩
      have h0 := h6 i x p hx hp
      refine RI_move h0 (fun q hq => ?_)
      obtain ⟨cur, sp, hcell⟩ : ∃ cur sp, w.heap[q]? = some (.cells cur 3 sp) := by
        rcases h0.2 with ⟨hx0, _⟩ | ⟨g, cap, cur, hx0, _, hg, _⟩
        · rw [hx0] at hq; cases hq
        · rw [hx0] at hq; simp [Value.ownBlock] at hq; subst hq; exact ⟨_, _, hg⟩
      have hqr : q ≠ r := fun e => by rw [e, hr] at hcell; cases hcell
      refine (hset.2 q hqr).trans ?_
      rcases hal with rfl | rfl <;> rfl
    refine .inr ⟨e.key, A, _, c, _, _, _, ?_, ?_, by rw [← hv]; exact hrun, ⟨hown, es1, clock1, since, seen.push e.born, clock1, hb', hset.1, hold, hsk, hsk, rfl, rfl⟩, hgr, ?_, ?_⟩
    · rw [← hl, hf1, hf2, hsum, hv]; rfl
    · rw [← hc]; exact left_shrinks es1 seen e he
    · rcases hal with rfl | rfl <;> simp [setBlock]
    · rw [← hv]; exact run_entry_at _ r b since seen es1 clock1 e hset.1 hb' hem h2
variable {ops : Array Oper} {rest : List Oper} {o : Oper} {a : Act} {Q : Exit → Act → World → Prop}
theorem wpList_rangeG (hg : o.guard = none) (m : Operand) (t : TypeId) (hop : o.op = Op.range t m) {e : TypeId} (ht : P.underlying t = some (.map k e)) (hm : a.eval m = .map (some b)) (h : OwnsG P k enc w b base L)
    (hK : ∀ w', RangeG P k enc w' b base w.heap.size L L.length (total L) → Below w.heap.size w w' → wpList P ops Q rest (a.put o.dst (.pointer (some ⟨w.heap.size, 0, none⟩))) w') : wpList P ops Q (o :: rest) a w := by
  refine wpList_plain hg fun K' hK' => ?_
  obtain ⟨w', hrun, r1, r2, r3⟩ := range_run h ht
  unfold Oper.wp
  simp [execOp, hop, hm, hrun, Result.andThen]
  exact hK' _ _ (hK w' r1 r2)
theorem wpList_nextG {cnt left : Nat} (hg : o.guard = none) (it : Operand) (hop : o.op = Op.next it false) (hit : a.eval it = .pointer (some ⟨r, 0, none⟩)) (h : RangeG P k enc w b base r L cnt left)
    (hDone : cnt = 0 → left = 0 → wpList P ops Q rest (a.put o.dst (.tuple #[.bool false])) w)
    (hMore : ∀ (key : Value) (A : Option Addr) (n c : Nat) (w' : World) (cnt' left' : Nat), left = n + left' → cnt' < cnt → RangeG P k enc w' b base r L cnt' left' → w.grownBy w' (some r) → w'.heap.size = w.heap.size →
      (Instr.entry (.pointer (some ⟨r, 0, none⟩))).run P w' = .ok (.tuple #[key, .slice A n c]) w' → wpList P ops Q rest (a.put o.dst (.tuple #[.bool true, key, .slice A n c])) w') :
    wpList P ops Q (o :: rest) a w := by
  refine wpList_plain hg fun K' hK' => ?_
  unfold Oper.wp
  rcases next_run h o.type with ⟨h0, hl, hrun⟩ | ⟨key, A, n, c, w', cnt', left', h1, h2, hrun, h3, h4, h5, h6⟩
  · simp [execOp, hop, hit, hrun, Result.andThen]
    exact hK' _ _ (hDone h0 hl)
  · simp [execOp, hop, hit, hrun, Result.andThen]
    exact hK' _ _ (hMore key A n c w' cnt' left' h1 h2 h3 h4 h5 h6)
/-- m[a] in any world where the map's block is the same. -/
theorem lookup_any {t E : TypeId} (K : Keyed P k) (ht : P.underlying t = some (.map k E)) (hz : ∀ u : World, (zeroValue E).run P u = .ok (.slice none 0 0) u) (hinj : ∀ a c : κ, enc a = enc c → a = c) (hkey : ∀ a : κ, ∃ l, keyOf P k (enc a) = some l)
    (h : OwnsG P k enc w b base L) (a : κ) : ∃ v, (∀ W : World, W.heap[b]? = w.heap[b]? → (Instr.lookup t (.map (some b)) (enc a) false).run P W = .ok v W) ∧ RI w base v (getL L a) := by
  obtain ⟨es, clock, hm, h1, h2, h3, h4, h5, h6, h7⟩ := h
  obtain ⟨kl, hkl⟩ := hkey a
  rcases Classical.em (∃ (j : Nat) (e0 : MapEntry), es.toList[j]? = some e0 ∧ e0.key = enc a) with ⟨j0, e1, hj0, he1⟩ | hno
  · obtain ⟨p, hp, hpa⟩ := key_at h3 hinj hj0 he1
    refine ⟨e1.val, fun W hW => ?_, ?_⟩
    · rcases K.find W hkl es.toList (keys_ok h3 hkey) with ⟨hf, hno⟩ | ⟨j, e0, hf, hj, he⟩
      · exact absurd he1 (hno e1 (List.mem_of_getElem? hj0))
      · obtain ⟨p', hp', hpa'⟩ := key_at h3 hinj hj he
        have hjj : j = j0 := by
          have := (idx_of h4 hp hpa).symm.trans (idx_of h4 hp' hpa')
          injection this with this; exact this.symm
        subst hjj
        obtain rfl : e0 = e1 := by rw [hj0] at hj; injection hj with hj; exact hj.symm
        simp [Instr.lookup, run_underlying ht, MapKept.run_getObj_map (hW.trans hm), K.check W _ hkl, hf, Result.andThen]
    · have : getL L a = p.2 := by unfold getL; rw [idx_of h4 hp hpa]; simp [hp]
      rw [this]
      exact h6 j0 e1 p hj0 hp
  · have hno' : ∀ e ∈ es.toList, e.key ≠ enc a := fun e he hk => by obtain ⟨j, hj⟩ := List.getElem?_of_mem he; exact hno ⟨j, e, hj, hk⟩
    refine ⟨.slice none 0 0, fun W hW => ?_, ?_⟩
    · rcases K.find W hkl es.toList (keys_ok h3 hkey) with ⟨hf, _⟩ | ⟨j, e0, hf, hj, he⟩
      · simp [Instr.lookup, run_underlying ht, MapKept.run_getObj_map (hW.trans hm), K.check W _ hkl, hf, hz, Result.andThen]
      · exact absurd ⟨j, e0, hj, he⟩ hno
    · rw [show getL L a = [] by unfold getL; rw [idx_no (no_key h3 hno')]]
      exact RI_nil _ _
end
section
variable {κ : Type} [DecidableEq κ] {L : List (κ × List Int)}
theorem idx_keys {L M : List (κ × List Int)} (h : L.map (·.1) = M.map (·.1)) (a : κ) : idx L a = idx M a := by
  have key : ∀ X : List (κ × List Int), idx X a = (X.map (·.1)).findIdx? (fun c => c == a) := by
    intro X
    unfold idx
    rw [List.findIdx?_map]
    rfl
  rw [key, key, h]
theorem put_keys {a : κ} {zs : List Int} {j : Nat} (h : idx L a = some j) : (L.set j (a, zs)).map (·.1) = L.map (·.1) := by
  obtain ⟨p, hp, hpa⟩ := idx_some h
  rw [List.map_set]
  apply List.ext_getElem?
  intro i
  rw [List.getElem?_set]
  split
  · next hi =>
    subst hi
    rw [List.getElem?_map, hp]
    have := (List.getElem?_eq_some_iff.1 hp).1
    simp [hpa, this]
  · rfl
theorem get_put (a c : κ) (zs : List Int) : getL (putL L a zs) c = if a = c then zs else getL L c := by
  unfold putL
  cases hi : idx L a with
  | none =>
    simp only
    by_cases hac : a = c
    · subst hac
      rw [if_pos rfl]
      unfold getL idx
      have h0 := idx_none hi
      have : (L ++ [(a, zs)]).findIdx? (fun p => p.1 == a) = some L.length := by
        rw [List.findIdx?_append, show L.findIdx? (fun p => p.1 == a) = none from hi]
        simp
      rw [this]
      simp
    · rw [if_neg hac]
      unfold getL idx
      rw [List.findIdx?_append]
      cases hc : L.findIdx? (fun p => p.1 == c) with
      | none => simp [hac]
      | some j =>
        have hj := (List.findIdx?_eq_some_iff_getElem.1 hc).1
        simp [List.getElem?_append_left hj]
  | some j =>
    simp only
    obtain ⟨p, hp, hpa⟩ := idx_some hi
    have hjl := (List.getElem?_eq_some_iff.1 hp).1
    unfold getL
    rw [idx_keys (put_keys hi) c]
    by_cases hac : a = c
    · subst hac
      rw [if_pos rfl, hi]
      simp [hjl]
    · rw [if_neg hac]
      cases hc : idx L c with
      | none => rfl
      | some i =>
        obtain ⟨q, hq, hqc⟩ := idx_some hc
        have hne : j ≠ i := fun e => by subst e; rw [hp] at hq; injection hq with hq; rw [← hq] at hqc; exact hac (hpa.symm.trans hqc)
        simp [List.getElem?_set, hne]
theorem total_put (a : κ) (x : Int) : total (putL L a (getL L a ++ [x])) = total L + 1 := by
  unfold putL total
  cases hi : idx L a with
  | none =>
    have : getL L a = [] := by unfold getL; rw [hi]
    simp [this]
  | some j =>
    obtain ⟨p, hp, hpa⟩ := idx_some hi
    have hg : getL L a = p.2 := by unfold getL; rw [hi]; simp [hp]
    have hjl := (List.getElem?_eq_some_iff.1 hp).1
    have e1 : L = L.take j ++ p :: L.drop (j + 1) := by
      have h2 : L[j] = p := (List.getElem?_eq_some_iff.1 hp).2
      rw [← h2, List.getElem_cons_drop, List.take_append_drop]
    have e2 : L.set j (a, getL L a ++ [x]) = L.take j ++ (a, p.2 ++ [x]) :: L.drop (j + 1) := by
      rw [hg]; exact List.set_eq_take_append_cons_drop .. |>.trans (by rw [if_pos hjl])
    simp only
    rw [e2]
    conv => rhs; rw [e1]
    simp only [List.map_append, List.map_cons, List.sum_append, List.sum_cons, List.length_append, List.length_singleton]
    omega
end
end Go.Proofs.Ytgpmhdefpbmhjaa.MapG
