/- append to a full slice that came in: a new row of the call's own. -/
import Derived.Test.YtgpmhdefpbmhjaaWMore
import Derived.Test.YtgpmhdefpbmhjaaWZeros
import Derived.ArgAppend
import Derived.Lib.AppendZerosOnto
import Derived.Maps.AppendAt
namespace Go.Proofs.Ytgpmhdefpbmhjaa.Full
set_option linter.unusedVariables false
set_option linter.unusedSimpArgs false
open Go Go.RowKit Go.Proofs.YtgpmhdefpbmhjaaW.PrintWords Go.Proofs.YtgpmhdefpbmhjaaW.PrintLast Go.Proofs.YtgpmhdefpbmhjaaW.PrintMore
section
variable {α : Type} {d : Kd α} {w : World} {ad : Addr} {n : Nat} {xs : List α}
theorem reps_of (h : ∀ j p, xs[j]? = some p → ∃ c, c.length = d.sz ∧ d.K w p c ∧ ∀ i u, c[i]? = some u → w.cell? (ad.add (j * d.sz + i)) = some u) :
    ∃ olds, olds.length = xs.length * d.sz ∧ (∀ j u, olds[j]? = some u → w.cell? (ad.add j) = some u) ∧ Reps (d.K w) d.sz xs olds := by
  have key : ∀ m, m ≤ xs.length → ∃ olds, olds.length = m * d.sz ∧ (∀ j u, olds[j]? = some u → w.cell? (ad.add j) = some u) ∧ Reps (d.K w) d.sz (xs.take m) olds := by
    intro m
    induction m with
    | zero => intro _; exact ⟨[], by simp, by simp, by rw [List.take_zero]; exact Reps.none _ _⟩
    | succ m ih =>
      intro hm
      obtain ⟨olds, hl, hc, hr⟩ := ih (by omega)
      obtain ⟨c, hcl, hk, hcc⟩ := h m xs[m] (List.getElem?_eq_getElem (by omega))
      refine ⟨olds ++ c, by rw [List.length_append, hl, hcl, Nat.add_mul, Nat.one_mul], ?_, ?_⟩
      · intro j u hj
        by_cases h1 : j < olds.length
        · rw [List.getElem?_append_left h1] at hj
          exact hc j u hj
        · rw [List.getElem?_append_right (by omega)] at hj
          have := hcc _ u hj
          rw [hl] at this
          rwa [show m * d.sz + (j - m * d.sz) = j by omega] at this
      · rw [List.take_succ_eq_append_getElem (by omega)]
        exact Reps.snoc hr hk hcl
  obtain ⟨olds, hl, hc, hr⟩ := key xs.length (Nat.le_refl _)
  rw [List.take_length] at hr
  exact ⟨olds, hl, hc, hr⟩
/-- The old cells, as append reads them. -/
theorem olds_of {A : Option Addr} (h : d.C w A xs.length xs) : ∃ olds, olds.length = xs.length * d.sz ∧ Reps (d.K w) d.sz xs olds ∧ ∀ (P : Program) (cap : Nat), (Builtin.firstCells d.sz xs.length (.slice A xs.length cap)).run P w = .ok olds.toArray w ∧ (Builtin.firstCells d.sz xs.length (.slice A xs.length cap)).run P w.drew = .ok olds.toArray w.drew := by
  rcases Nat.eq_zero_or_pos xs.length with h0 | h0
  · have he : xs = [] := List.length_eq_zero_iff.1 h0
    subst he
    refine ⟨[], by simp, Reps.none _ _, fun P cap => ?_⟩
    rcases A with _ | b
    · exact ⟨run_firstCells_none _ _ _ _ _, run_firstCells_none _ _ _ _ _⟩
    · exact ⟨run_firstCells_some (P := P) w d.sz 0 b 0 cap [] (by simp) (by simp), run_firstCells_some (P := P) w.drew d.sz 0 b 0 cap [] (by simp) (by simp)⟩
  · obtain ⟨ad, rfl, hc⟩ := h.2.2 h0
    obtain ⟨olds, hl, hcell, hr⟩ := reps_of hc
    exact ⟨olds, hl, hr, fun P cap => ⟨run_firstCells_some (P := P) w d.sz xs.length ad xs.length cap olds hl hcell, run_firstCells_some (P := P) w.drew d.sz xs.length ad xs.length cap olds hl hcell⟩⟩
theorem reps_replicate {R : α → List Value → Prop} {size : Nat} {z : α} {c : List Value} (hz : R z c) (hc : c.length = size) : ∀ k, Reps R size (List.replicate k z) (List.replicate k c).flatten
  | 0 => Reps.none _ _
  | k + 1 => by
    rw [List.replicate_succ', List.replicate_succ', List.flatten_append]
    simpa using Reps.snoc (reps_replicate hz hc k) hz hc
theorem reps_append {R : α → List Value → Prop} {size : Nat} {xs ys : List α} {cs ds : List Value} (h : Reps R size xs cs) (k : Reps R size ys ds) : Reps R size (xs ++ ys) (cs ++ ds) := by
  refine ⟨by rw [List.length_append, h.1, k.1, List.length_append, Nat.add_mul], fun j p hj => ?_⟩
  rcases Nat.lt_or_ge j xs.length with h1 | h1
  · rw [List.getElem?_append_left h1] at hj
    have h2 : j * size + size ≤ cs.length := by rw [h.1, ← Nat.succ_mul]; exact Nat.mul_le_mul_right _ h1
    have h3 := h.2 j p hj
    rw [List.drop_append_of_le_length (by omega), List.take_append_of_le_length (by rw [List.length_drop]; omega)]
    exact h3
  · rw [List.getElem?_append_right h1] at hj
    have h3 := k.2 _ p hj
    have h4 : j * size = cs.length + (j - xs.length) * size := by rw [h.1, ← Nat.add_mul]; congr 1; omega
    rw [h4, ← List.drop_drop, List.drop_left]
    exact h3
/-- append(xs[:n:n], make([]T, k)...) of a slice that came in. -/
theorem grow_zeros {P : Program} (t tn ty e : TypeId) (kq kn : IntKind) (z : Value) (bytes : Nat) (ht : P.underlying t = some (.slice e)) (htn : P.underlying tn = some (.int kn))
    (hinfo : (P.info? e).map (fun i => (i.zero, i.size, i.bytes)) = some (some z, d.sz, bytes)) (hzs : z.cells.size = d.sz) (hs0 : 0 < d.sz) (z0 : α) (hz0 : d.K w z0 z.cells.toList)
    (hflat : ∀ {x : α} {cs : List Value} {w1 : World} {base : Nat} {ok : Nat → Prop}, d.K w x cs → d.M w1 base ok x cs)
    {A : Option Addr} (h : d.C w A xs.length xs) (cap k : Nat) (h0 : 0 < k) (hg : cap < xs.length + k) (hb : (xs.length + k) * bytes ≤ 140737488355328) (hb0 : 0 < bytes) :
    ∃ v' w', (Builtin.append_ #[t, tn] ty #[.slice A xs.length cap, .int kq (k : Int)]).run P w = .ok v' w' ∧ d.R e w' w.heap.size (fun _ => True) v' (xs ++ List.replicate k z0) ∧ Below w.heap.size w w' := by
  obtain ⟨i, hi, hzz⟩ := Option.map_eq_some_iff.1 hinfo
  simp only [Prod.mk.injEq] at hzz
  obtain ⟨hz, hsz, hby⟩ := hzz
  obtain ⟨olds, hlo, hr, hfc⟩ := olds_of h
  have hle : xs.length + k ≤ 140737488355328 := Nat.le_trans (Nat.le_mul_of_pos_right _ hb0) hb
  have hfc' : (Builtin.firstCells i.size xs.length (.slice A xs.length cap)).run P w.drew = .ok olds.toArray w.drew := by
    rw [hsz]
    exact (hfc P cap).2
  have hrun := Go.Lib.run_append_grow_zeros (P := P) w t tn ty e i z kq kn ht htn hi hz A xs.length cap olds hfc' k h0 (by rw [hsz]; exact hs0) hg (by omega)
    (by rw [hby]; exact Nat.le_trans (Nat.mul_le_mul_right bytes (Nat.le_add_left k xs.length)) (by omega)) (growslice_fits hg (by rw [hby]; exact hb))
  have hge := grownCap_ge w (xs.length + k) cap e
  have hcm : grownCap w (xs.length + k) cap e ≤ maxLen := grownCap_le_maxLen w (xs.length + k) cap e (by unfold maxLen; omega)
  have hzl : (Builtin.zeroCells z.cells k).toList.length = k * d.sz := by rw [Array.length_toList, size_zeroCells, hzs]
  refine ⟨_, _, hrun, ⟨fun _ _ => trivial, olds ++ (Builtin.zeroCells z.cells k).toList, ?_, ?_⟩, ?_⟩
  · have hlen : (olds ++ (Builtin.zeroCells z.cells k).toList).length = (xs.length + k) * d.sz := by rw [List.length_append, hlo, hzl, Nat.add_mul]
    rw [List.length_append, List.length_replicate]
    refine ⟨hlen, .inr ⟨w.heap.size, _, _, rfl, Nat.le_refl _, heap_alloc_new w.drew _, hge, hcm, ?_, ?_⟩⟩
    · simp only [Array.size_append, List.size_toArray, size_zeroCells, hzs, hlo, ← Nat.add_mul]
      congr 1
      omega
    · simp only [Array.toList_append, List.append_assoc]
      rw [← List.append_assoc, ← hlen]
      exact List.take_left
  · exact (reps_append hr (Kd.reps_zeros hzs hs0 hz0 k)).imp_ (fun _ _ hp => hflat hp)
  · exact below_alloc (below_drew1 (Below.refl _ _)) _
/-- A row whose cells stand somewhere is read there. -/
theorem C_of_reps {cs : List Value} (hc : ∀ j u, cs[j]? = some u → w.cell? (ad.add j) = some u) (hr : Reps (d.K w) d.sz xs cs) (hl : xs.length ≤ 9223372036854775807) : d.C w (some ad) xs.length xs := by
  refine ⟨rfl, hl, fun _ => ⟨ad, rfl, fun j p hj => ?_⟩⟩
  have hjl : j < xs.length := (List.getElem?_eq_some_iff.1 hj).1
  have h2 : j * d.sz + d.sz ≤ cs.length := by rw [hr.1, ← Nat.succ_mul]; exact Nat.mul_le_mul_right _ hjl
  refine ⟨(cs.drop (j * d.sz)).take d.sz, by rw [List.length_take, List.length_drop]; omega, hr.2 j p hj, fun i u hi => ?_⟩
  have hid : i < d.sz := by have := (List.getElem?_eq_some_iff.1 hi).1; rw [List.length_take] at this; omega
  rw [List.getElem?_take, if_pos hid, List.getElem?_drop] at hi
  exact hc _ u hi
/-- The cells of a new block. -/
theorem cells_new (W : World) (cs : List Value) (e : TypeId) : ∀ j u, cs[j]? = some u → (W.alloc (.cells cs.toArray e)).cell? ((⟨W.heap.size, 0, none⟩ : Addr).add j) = some u := by
  intro j u hj
  have h0 : (⟨W.heap.size, 0, none⟩ : Addr).add j = ⟨W.heap.size, j, none⟩ := by
    unfold Addr.add
    by_cases h : j = 0
    · simp [h]
    · simp [h]
  rw [h0]
  simp [hj]
/-- append(xs[:n:n], x) of a slice that came in. -/
theorem grow_one {P : Program} (t ty e : TypeId) (z : Value) (bytes : Nat) (ht : P.underlying t = some (.slice e))
    (hinfo : (P.info? e).map (fun i => (i.zero, i.size, i.bytes)) = some (some z, d.sz, bytes)) (hzs : z.cells.size = d.sz) (hs0 : 0 < d.sz)
    (hflat : ∀ {x : α} {cs : List Value} {w1 : World} {base : Nat} {ok : Nat → Prop}, d.K w x cs → d.M w1 base ok x cs)
    {A : Option Addr} (h : d.C w A xs.length xs) (b : Addr) (c : Nat) (x : α) (news : List Value) (hn : news.length = d.sz) (hnews : ∀ j u, news[j]? = some u → w.cell? (b.add j) = some u) (hx : d.K w x news)
    (h1 : ∀ u ∈ news, u.oneCell' = true) (hb : (xs.length + 1) * bytes ≤ 140737488355328) (hb0 : 0 < bytes) :
    ∃ v' w', (Builtin.append_ #[t, t] ty #[.slice A xs.length xs.length, .slice (some b) 1 c]).run P w = .ok v' w' ∧ d.R e w' w.heap.size (fun _ => True) v' (xs ++ [x]) ∧ Below w.heap.size w w' := by
  obtain ⟨i, hi, hzz⟩ := Option.map_eq_some_iff.1 hinfo
  simp only [Prod.mk.injEq] at hzz
  obtain ⟨hz, hsz, hby⟩ := hzz
  have hle : xs.length + 1 ≤ 140737488355328 := Nat.le_trans (Nat.le_mul_of_pos_right _ hb0) hb
  have done : ∀ (v' : Value) (w' : World) (olds : List Value), olds.length = xs.length * d.sz → Reps (d.K w) d.sz xs olds → w'.ownsRow w.heap.size e d.sz v' (xs.length + 1) (olds ++ news) → Below w.heap.size w w' →
      d.R e w' w.heap.size (fun _ => True) v' (xs ++ [x]) ∧ Below w.heap.size w w' := fun v' w' olds hlo hr how hbw =>
    ⟨⟨fun _ _ => trivial, olds ++ news, by rw [List.length_append, List.length_singleton]; exact how, (Reps.snoc hr hx hn).imp_ (fun _ _ hp => hflat hp)⟩, hbw⟩
  rcases A with _ | ad
  · have hx0 : xs = [] := by
      rcases Nat.eq_zero_or_pos xs.length with h0 | h0
      · exact List.length_eq_zero_iff.1 h0
      · obtain ⟨ad, he, _⟩ := h.2.2 h0; cases he
    subst hx0
    obtain ⟨v', w', hrun, how, hg, _, _⟩ := run_append_own_at (P := P) w w.heap.size t ty e i z d.sz bytes ht hi hz hsz hby hzs hs0 (.slice none 0 0) 0 [] (World.ownsRow_nil _ _ _ _) b 1 c news (by rw [hn]; omega) hnews h1 (by unfold maxLen; omega) hb (Nat.le_refl _)
    obtain ⟨r1, r2⟩ := done v' w' [] (by simp) (Reps.none _ _) how (pw_below_grown (Below.refl _ _) none (Nat.le_refl _) hg (fun k hk => by cases hk))
    exact ⟨v', w', hrun, r1, r2⟩
  · obtain ⟨olds, hlo, hr, hc⟩ : ∃ olds, olds.length = xs.length * d.sz ∧ Reps (d.K w) d.sz xs olds ∧ ∀ j u, olds[j]? = some u → w.cell? (ad.add j) = some u := by
      rcases Nat.eq_zero_or_pos xs.length with h0 | h0
      · have he : xs = [] := List.length_eq_zero_iff.1 h0
        subst he
        exact ⟨[], by simp, Reps.none _ _, by simp⟩
      · obtain ⟨ad2, he, hc⟩ := h.2.2 h0
        cases he
        obtain ⟨olds, hl, hcell, hr⟩ := reps_of hc
        exact ⟨olds, hl, hr, hcell⟩
    obtain ⟨v', w', hrun, how, hg⟩ := run_append_arg_grows (P := P) w t ty e i z d.sz bytes ht hi hz hsz hby hzs hs0 ad xs.length xs.length olds hlo hc b 1 c news (by rw [hn]; omega) hnews (by omega) (by unfold maxLen; omega) hb
    obtain ⟨r1, r2⟩ := done v' w' olds hlo hr how (pw_below_grown (Below.refl _ _) none (Nat.le_refl _) hg (fun k hk => by cases hk))
    exact ⟨v', w', hrun, r1, r2⟩
end
section
variable {P : Program} {ops : Array Oper} {rest : List Oper} {o : Oper} {a : Act} {Q : Exit → Act → World → Prop}
/-- append, whose run is known. -/
theorem wpList_append_run {W : World} (hgd : o.guard = none) (s x : Operand) (t tx : TypeId) (ho : o.op = .call { callee := .builtin .append, args := #[s, x], argTypes := #[t, tx] }) (v u v1 : Value) (w1 : World) (hs : a.eval s = v) (hx : a.eval x = u)
    (hrun : (Builtin.append_ #[t, tx] o.type #[v, u]).run P W = .ok v1 w1) (h : wpList P ops Q rest (a.put o.dst v1) w1) : wpList P ops Q (o :: rest) a W := by
  refine wpList_plain hgd fun K hK => ?_
  unfold Oper.wp execOp
  simp only [ho, resolve, invoke, builtin, Sem.run_bind, Sem.run_pure, Result.andThen_ok, List.map_toArray, List.map_cons, List.map_nil, hs, hx, hrun]
  exact hK _ _ h
end
end Go.Proofs.Ytgpmhdefpbmhjaa.Full
