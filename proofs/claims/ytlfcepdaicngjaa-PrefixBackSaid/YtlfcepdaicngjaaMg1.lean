/- Several texts in one (merge.py): A struct's block of the call's own, one of whose parts is a row of bytes of the call's own: what is kept, what a store and an append leave.; append to a full slice that came in: a new row of the call's own.; append([]byte, s...) of a row of the call's own, s a text: where the new row lies, too.; An array of whole numbers in a block of its own.; prefix.Words: the words of lengths (arrays count, next), in the printer's form: the walk.; slices.Clone of bytes, in the printer's form: the walk.; A map of the call's own from keys to plain values, told as a function: read, and stored into.; The keys of a code's map: word{length, number}.; prefix.New: a code of lengths: the walk.; prefix.New where it gives none: the walks.; The chapter's example: the walk.; Lengths of words: how far they fill, the first word of each length, the words; no word begins another one. Plain Lean, no program.; Plain: lengths that Fill takes.; Plain: the words that prefix.Words makes are Kraft's words.; Plain: what a code's look-up tells; a whole code: any 15 bits begin with a word.; prefix.Code: its methods goes and Length: the walks.; Plain facts on bytes, little-endian numbers and 64-bit words: no program in sight.; Bits as numbers: bytes, the lowest first; what one step of writing does. Plain Lean.; bits.Reader: Peek and Skip where nothing is wrong. Plain Lean.; prefix.Code: Length and Sign: the walks.; Bits in the other order. Plain Lean.; bits.Writer: its methods on a number of so many bits.; bits.Write -/
import Derived.Test.YtlfcepdaicngjaaWMore
import Derived.Test.YtlfcepdaicngjaaWKept
import Derived.Test.YtlfcepdaicngjaaWZeros
import Derived.ArgAppend
import Derived.Lib.AppendZerosOnto
import Derived.Maps.AppendAt
import Derived.Lib.AppendStr
import Derived.Deep.MidRow
import Derived.Test.YtlfcepdaicngjaaPx1
import Derived.Lib.SliceRun
import Derived.Test.YtlfcepdaicngjaaProg
import Derived.Maps.Keyed
import Derived.WideKeyEntry
import Derived.ChangeMaps5
import Derived.DeepKeys4
import Derived.Laws.BitsLemmas
import Derived.Test.YtlfcepdaicngjaaPx2
import Derived.Test.YtlfcepdaicngjaaPx3
import Derived.Test.YtlfcepdaicngjaaPx4
import Derived.Test.YtlfcepdaicngjaaPx5
import Derived.Test.YtlfcepdaicngjaaPx0
import Derived.StillTailTactics
import Derived.ChangeArms
import Derived.DataReads
import Derived.SizedLaws
import Derived.WideShapes
/- A struct's block of the call's own, one of whose parts is a row of bytes of the call's own: what is kept, what a store and an append leave. -/
namespace Go.Proofs.Ytlfcepdaicngjaa.Hd
set_option linter.unusedVariables false
set_option linter.unusedSimpArgs false
open Go Go.RowKit Go.Proofs.YtlfcepdaicngjaaW.PrintWords Go.Proofs.YtlfcepdaicngjaaW.PrintLast Go.Proofs.YtlfcepdaicngjaaW.PrintMore

/-- Block g holds cs (type T); v, somewhere among them, is a row of the call's own. -/
structure Holds (base : Nat) (W : World) (g T : Nat) (cs : Array Value) (v : Value) (xs : List Int) : Prop where
  blk : W.heap[g]? = some (.cells cs T (0, 0))
  ge : base ≤ g
  row : Kd.R (Kd.int .u8) 5 W base (fun k => some k = v.ownBlock) v xs
section
variable {base g T : Nat} {W W1 w : World} {cs : Array Value} {v v1 v' : Value} {xs ys : List Int} {S : Nat → Prop}
theorem Holds.lt (h : Holds base W g T cs v xs) : g < W.heap.size := blk_lt h.blk
theorem Holds.own (h : Holds base W g T cs v xs) : ∀ k, v.ownBlock = some k → base ≤ k ∧ k < W.heap.size ∧ ∃ cells, W.heap[k]? = some (.cells cells 5 (0, 0)) := fun k hk => ⟨Kd.R_base h.row k hk, Kd.R_lt h.row k hk, Kd.R_typed h.row k hk⟩
theorem Holds.ne (h : Holds base W g T cs v xs) (hT : T ≠ 5) : ∀ k, v.ownBlock = some k → k ≠ g := fun k hk he => by
  obtain ⟨c, hc⟩ := (h.own k hk).2.2
  exact blk_ne hc h.blk (Ne.symm hT) he
theorem Holds.kept (h : Holds base W g T cs v xs) (hk : Kept W W1 S) (hg : ¬ S g) (hr : ∀ k, v.ownBlock = some k → ¬ S k) : Holds base W1 g T cs v xs :=
  ⟨blk_kept h.blk hk hg, h.ge, Kd.R_kept h.row hk (fun k hk => hr k hk.symm)⟩
theorem Holds.below (h : Holds base W g T cs v xs) (hb : Below W.heap.size W W1) : Holds base W1 g T cs v xs := h.kept (Kept.of_below hb (fun _ => False)) (fun h => h) (fun _ _ h => h)
theorem Holds.alloc (h : Holds base W g T cs v xs) (o : Obj) : Holds base (W.alloc o) g T cs v xs := h.below (below_alloc (Below.refl _ _) o)
theorem Holds.drewN (h : Holds base W g T cs v xs) (m : Nat) : Holds base (W.drewN m) g T cs v xs := h.below (pw_below_drewN (Below.refl _ _) m)
theorem Holds.drew (h : Holds base W g T cs v xs) : Holds base W.drew g T cs v xs := h.below (below_drew (Below.refl _ _))
/-- A store into the struct. -/
theorem Holds.set (h : Holds base W g T cs v xs) (hT : T ≠ 5) (j : Nat) (u : Value) : Holds base (W.setCell ⟨g, j, none⟩ u) g T (cs.setIfInBounds j u) v xs :=
  ⟨blk_set h.blk j u, h.ge, Kd.R_far h.row (p := ⟨g, j, none⟩) (fun k hk => h.ne hT k hk.symm) u⟩
/-- A store elsewhere. -/
theorem Holds.far (h : Holds base W g T cs v xs) {p : Addr} (hg : g ≠ p.block) (hr : ∀ k, v.ownBlock = some k → k ≠ p.block) (u : Value) : Holds base (W.setCell p u) g T cs v xs :=
  ⟨blk_far h.blk hg u, h.ge, Kd.R_far h.row (p := p) (fun k hk => hr k hk.symm) u⟩
/-- A store into the row. -/
theorem Holds.put {b cap : Nat} (h : Holds base W g T cs (.slice (some ⟨b, 0, none⟩) xs.length cap) xs) (hT : T ≠ 5) (i : Nat) (x : Int) :
    Holds base (W.setCell ⟨b, i, none⟩ (.int .u8 x)) g T cs (.slice (some ⟨b, 0, none⟩) xs.length cap) (xs.set i x) := by
  have h1 := (Kd.R_put h.row (i : Int) x).1
  simp only [Int.toNat_natCast] at h1
  exact ⟨blk_far h.blk (p := ⟨b, i, none⟩) (fun e => h.ne hT b rfl e.symm) _, h.ge, h1⟩
/-- A new row put in the struct's place j. -/
theorem Holds.turn (h : Holds base W g T cs v xs) (j : Nat) (hr : Kd.R (Kd.int .u8) 5 W base (fun k => some k = v1.ownBlock) v1 ys) (hT : T ≠ 5) : Holds base (W.setCell ⟨g, j, none⟩ v1) g T (cs.setIfInBounds j v1) v1 ys := by
  have h' : Holds base W g T cs v1 ys := ⟨h.blk, h.ge, hr⟩
  exact h'.set hT j v1
end
/-- What a method of the struct at g, whose row was v and is v', keeps. -/
structure Wrote (W W' : World) (g : Nat) (v v' : Value) : Prop where
  same : Below 0 W W'
  kept : Kept W W' (fun k => k = g ∨ some k = v.ownBlock)
  row : v'.ownBlock = v.ownBlock ∨ ∃ b, v'.ownBlock = some b ∧ W.heap.size ≤ b
section
variable {B g g2 T T2 base base2 : Nat} {w W W1 W2 : World} {v v1 v2 u : Value} {cs : Array Value} {xs ys : List Int}
theorem Wrote.refl (W : World) (g : Nat) (v : Value) : Wrote W W g v v := ⟨Below.refl _ _, Kept.refl _ _, .inl rfl⟩
theorem Wrote.trans (h : Wrote W W1 g v v1) (k : Wrote W1 W2 g v1 v2) : Wrote W W2 g v v2 := by
  refine ⟨h.same.trans k.same, h.kept.then_ k.kept (fun q hq => ?_), ?_⟩
  · rcases hq with rfl | hq
    · exact .inl (.inl rfl)
    · rcases h.row with h1 | ⟨b, h1, h2⟩
      · exact .inl (.inr (by rw [hq, h1]))
      · rw [h1] at hq; injection hq with hq; exact .inr (by omega)
  · rcases k.row with k1 | ⟨b, k1, k2⟩
    · rw [k1]; exact h.row
    · exact .inr ⟨b, k1, Nat.le_trans h.kept.1 k2⟩
theorem Wrote.drewN (h : Wrote W W1 g v v1) (m : Nat) : Wrote W (W1.drewN m) g v v1 := ⟨pw_below_drewN h.same m, h.kept.drewN m, h.row⟩
theorem Wrote.drew (h : Wrote W W1 g v v1) : Wrote W W1.drew g v v1 := ⟨below_drew h.same, h.kept.drew, h.row⟩
theorem Wrote.quiet (h : Wrote W W1 g v v1) (hb : Below W1.heap.size W1 W2) : Wrote W W2 g v v1 := ⟨h.same.trans (hb.mono (Nat.zero_le _)), h.kept.below hb, h.row⟩
theorem Wrote.alloc (h : Wrote W W1 g v v1) (o : Obj) : Wrote W (W1.alloc o) g v v1 := h.quiet (below_alloc (Below.refl _ _) o)
theorem same_set (h : Below 0 W W1) (p : Addr) (x : Value) : Below 0 W (W1.setCell p x) := ⟨h.os, h.tape, h.output, by simpa [World.setCell] using h.size, fun k hk => absurd hk (Nat.not_lt_zero _)⟩
theorem Wrote.set (h : Wrote W W1 g v v1) (j : Nat) (x : Value) : Wrote W (W1.setCell ⟨g, j, none⟩ x) g v v1 :=
  ⟨same_set h.same _ _, h.kept.setCell (.inl (.inl rfl)) x, h.row⟩
theorem Wrote.put {b : Nat} (h : Wrote W W1 g v v1) (hb : v1.ownBlock = some b) (j : Nat) (x : Value) : Wrote W (W1.setCell ⟨b, j, none⟩ x) g v v1 := by
  refine ⟨same_set h.same _ _, h.kept.setCell ?_ x, h.row⟩
  rcases h.row with h1 | ⟨c, h1, h2⟩
  · exact .inl (.inr (by rw [← hb, h1]))
  · rw [hb] at h1; injection h1 with h1; exact .inr (by rw [h1]; exact h2)
/-- An append to the row: the row is another. -/
theorem Wrote.grow (h : Wrote W W1 g v v1) (hg : W1.grownBy W2 v1.ownBlock) (hr : v2.ownBlock = v1.ownBlock ∨ ∃ b, v2.ownBlock = some b ∧ W1.heap.size ≤ b) : Wrote W W2 g v v2 :=
  h.trans ⟨⟨hg.os, hg.tape, hg.output, hg.size, fun k hk => absurd hk (Nat.not_lt_zero _)⟩, Kept.of_grown hg (Kept.refl _ _) (fun k hk => .inl (.inr hk.symm)), hr⟩
/-- All below both blocks is as it was. -/
theorem Wrote.below (h : Wrote W W1 g v v1) (hb : Below B w W) (hB : B ≤ W.heap.size) (hg : B ≤ g) (hv : ∀ k, v.ownBlock = some k → B ≤ k) : Below B w W1 := by
  refine hb.trans ⟨h.same.os, h.same.tape, h.same.output, h.same.size, fun k hk => h.kept.2 k (Nat.lt_of_lt_of_le hk hB) (fun hs => ?_)⟩
  rcases hs with rfl | hs
  · omega
  · have := hv k hs.symm; omega
theorem Wrote.below' (h : Wrote W W1 g v v1) (hI : Holds base W g T cs v xs) (hb : Below base w W) : Below base w W1 :=
  h.below hb (Nat.le_of_lt (Nat.lt_of_le_of_lt hI.ge hI.lt)) hI.ge (fun k hk => (hI.own k hk).1)
/-- Another struct with a row of its own stays as it was. -/
theorem Holds.stay (h2 : Holds base2 W g2 T2 cs u ys) (h : Wrote W W1 g v v1) (hg : g2 ≠ g) (hgv : ∀ k, v.ownBlock = some k → g2 ≠ k) (hug : ∀ k, u.ownBlock = some k → k ≠ g) (huv : ∀ k, u.ownBlock = some k → v.ownBlock ≠ some k) : Holds base2 W1 g2 T2 cs u ys :=
  h2.kept h.kept (fun hs => hs.elim hg (fun hs => hgv _ hs.symm rfl)) (fun k hk hs => hs.elim (hug k hk) (fun hs => huv k hk hs.symm))
theorem apart_step (h : Wrote W W1 g v v1) (hlt : ∀ k, u.ownBlock = some k → k < W.heap.size) (huv : ∀ k, u.ownBlock = some k → v.ownBlock ≠ some k) : ∀ k, u.ownBlock = some k → v1.ownBlock ≠ some k := by
  intro k hk
  rcases h.row with h1 | ⟨b, h1, h2⟩
  · rw [h1]; exact huv k hk
  · rw [h1]; intro e; injection e with e; have := hlt k hk; omega
end
end Go.Proofs.Ytlfcepdaicngjaa.Hd

/- append to a full slice that came in: a new row of the call's own. -/
namespace Go.Proofs.Ytlfcepdaicngjaa.Full
set_option linter.unusedVariables false
set_option linter.unusedSimpArgs false
open Go Go.RowKit Go.Proofs.YtlfcepdaicngjaaW.PrintWords Go.Proofs.YtlfcepdaicngjaaW.PrintLast Go.Proofs.YtlfcepdaicngjaaW.PrintMore
section
variable {α : Type} {d : Kd α} {w : World} {ad : Addr} {n : Nat} {xs : List α}
theorem reps_of (h : ∀ j p, xs[j]? = some p → ∃ c, c.length = d.sz ∧ d.K w p c ∧ ∀ i u, c[i]? = some u → w.cell? (ad.add (j * d.sz + i)) = some u) :
    ∃ olds, olds.length = xs.length * d.sz ∧ (∀ j u, olds[j]? = some u → w.cell? (ad.add j) = some u) ∧ Reps (d.K w) d.sz xs olds := by
  have key : ∀ m, m ≤ xs.length → ∃ olds, olds.length = m * d.sz ∧ (∀ j u, olds[j]? = some u → w.cell? (ad.add j) = some u) ∧ Reps (d.K w) d.sz (xs.take m) olds := by
    intro m
    induction m with
    | zero => intro _; exact ⟨[], by simp, by simp, by rw [List.take_zero]; exact Reps.none _ _⟩
    | succ m ih =>
      intro hm
      obtain ⟨olds, hl, hc, hr⟩ := ih (by omega)
      obtain ⟨c, hcl, hk, hcc⟩ := h m xs[m] (List.getElem?_eq_getElem (by omega))
      refine ⟨olds ++ c, by rw [List.length_append, hl, hcl, Nat.add_mul, Nat.one_mul], ?_, ?_⟩
      · intro j u hj
        by_cases h1 : j < olds.length
        · rw [List.getElem?_append_left h1] at hj
          exact hc j u hj
        · rw [List.getElem?_append_right (by omega)] at hj
          have := hcc _ u hj
          rw [hl] at this
          rwa [show m * d.sz + (j - m * d.sz) = j by omega] at this
      · rw [List.take_succ_eq_append_getElem (by omega)]
        exact Reps.snoc hr hk hcl
  obtain ⟨olds, hl, hc, hr⟩ := key xs.length (Nat.le_refl _)
  rw [List.take_length] at hr
  exact ⟨olds, hl, hc, hr⟩
/-- The old cells, as append reads them. -/
theorem olds_of {A : Option Addr} (h : d.C w A xs.length xs) : ∃ olds, olds.length = xs.length * d.sz ∧ Reps (d.K w) d.sz xs olds ∧ ∀ (P : Program) (cap : Nat), (Builtin.firstCells d.sz xs.length (.slice A xs.length cap)).run P w = .ok olds.toArray w ∧ (Builtin.firstCells d.sz xs.length (.slice A xs.length cap)).run P w.drew = .ok olds.toArray w.drew := by
  rcases Nat.eq_zero_or_pos xs.length with h0 | h0
  · have he : xs = [] := List.length_eq_zero_iff.1 h0
    subst he
    refine ⟨[], by simp, Reps.none _ _, fun P cap => ?_⟩
    rcases A with _ | b
    · exact ⟨run_firstCells_none _ _ _ _ _, run_firstCells_none _ _ _ _ _⟩
    · exact ⟨run_firstCells_some (P := P) w d.sz 0 b 0 cap [] (by simp) (by simp), run_firstCells_some (P := P) w.drew d.sz 0 b 0 cap [] (by simp) (by simp)⟩
  · obtain ⟨ad, rfl, hc⟩ := h.2.2 h0
    obtain ⟨olds, hl, hcell, hr⟩ := reps_of hc
    exact ⟨olds, hl, hr, fun P cap => ⟨run_firstCells_some (P := P) w d.sz xs.length ad xs.length cap olds hl hcell, run_firstCells_some (P := P) w.drew d.sz xs.length ad xs.length cap olds hl hcell⟩⟩
theorem reps_replicate {R : α → List Value → Prop} {size : Nat} {z : α} {c : List Value} (hz : R z c) (hc : c.length = size) : ∀ k, Reps R size (List.replicate k z) (List.replicate k c).flatten
  | 0 => Reps.none _ _
  | k + 1 => by
    rw [List.replicate_succ', List.replicate_succ', List.flatten_append]
    simpa using Reps.snoc (reps_replicate hz hc k) hz hc
theorem reps_append {R : α → List Value → Prop} {size : Nat} {xs ys : List α} {cs ds : List Value} (h : Reps R size xs cs) (k : Reps R size ys ds) : Reps R size (xs ++ ys) (cs ++ ds) := by
  refine ⟨by rw [List.length_append, h.1, k.1, List.length_append, Nat.add_mul], fun j p hj => ?_⟩
  rcases Nat.lt_or_ge j xs.length with h1 | h1
  · rw [List.getElem?_append_left h1] at hj
    have h2 : j * size + size ≤ cs.length := by rw [h.1, ← Nat.succ_mul]; exact Nat.mul_le_mul_right _ h1
    have h3 := h.2 j p hj
    rw [List.drop_append_of_le_length (by omega), List.take_append_of_le_length (by rw [List.length_drop]; omega)]
    exact h3
  · rw [List.getElem?_append_right h1] at hj
    have h3 := k.2 _ p hj
    have h4 : j * size = cs.length + (j - xs.length) * size := by rw [h.1, ← Nat.add_mul]; congr 1; omega
    rw [h4, ← List.drop_drop, List.drop_left]
    exact h3
/-- append(xs[:n:n], make([]T, k)...) of a slice that came in. -/
theorem grow_zeros {P : Program} (t tn ty e : TypeId) (kq kn : IntKind) (z : Value) (bytes : Nat) (ht : P.underlying t = some (.slice e)) (htn : P.underlying tn = some (.int kn))
    (hinfo : (P.info? e).map (fun i => (i.zero, i.size, i.bytes)) = some (some z, d.sz, bytes)) (hzs : z.cells.size = d.sz) (hs0 : 0 < d.sz) (z0 : α) (hz0 : d.K w z0 z.cells.toList)
    (hflat : ∀ {x : α} {cs : List Value} {w1 : World} {base : Nat} {ok : Nat → Prop}, d.K w x cs → d.M w1 base ok x cs)
    {A : Option Addr} (h : d.C w A xs.length xs) (cap k : Nat) (h0 : 0 < k) (hg : cap < xs.length + k) (hb : (xs.length + k) * bytes ≤ 140737488355328) (hb0 : 0 < bytes) :
    ∃ v' w', (Builtin.append_ #[t, tn] ty #[.slice A xs.length cap, .int kq (k : Int)]).run P w = .ok v' w' ∧ d.R e w' w.heap.size (fun _ => True) v' (xs ++ List.replicate k z0) ∧ Below w.heap.size w w' := by
  obtain ⟨i, hi, hzz⟩ := Option.map_eq_some_iff.1 hinfo
  simp only [Prod.mk.injEq] at hzz
  obtain ⟨hz, hsz, hby⟩ := hzz
  obtain ⟨olds, hlo, hr, hfc⟩ := olds_of h
  have hle : xs.length + k ≤ 140737488355328 := Nat.le_trans (Nat.le_mul_of_pos_right _ hb0) hb
  have hfc' : (Builtin.firstCells i.size xs.length (.slice A xs.length cap)).run P w.drew = .ok olds.toArray w.drew := by
    rw [hsz]
    exact (hfc P cap).2
  have hrun := Go.Lib.run_append_grow_zeros (P := P) w t tn ty e i z kq kn ht htn hi hz A xs.length cap olds hfc' k h0 (by rw [hsz]; exact hs0) hg (by omega)
    (by rw [hby]; exact Nat.le_trans (Nat.mul_le_mul_right bytes (Nat.le_add_left k xs.length)) (by omega)) (growslice_fits hg (by rw [hby]; exact hb))
  have hge := grownCap_ge w (xs.length + k) cap e
  have hcm : grownCap w (xs.length + k) cap e ≤ maxLen := grownCap_le_maxLen w (xs.length + k) cap e (by unfold maxLen; omega)
  have hzl : (Builtin.zeroCells z.cells k).toList.length = k * d.sz := by rw [Array.length_toList, size_zeroCells, hzs]
  refine ⟨_, _, hrun, ⟨fun _ _ => trivial, olds ++ (Builtin.zeroCells z.cells k).toList, ?_, ?_⟩, ?_⟩
  · have hlen : (olds ++ (Builtin.zeroCells z.cells k).toList).length = (xs.length + k) * d.sz := by rw [List.length_append, hlo, hzl, Nat.add_mul]
    rw [List.length_append, List.length_replicate]
    refine ⟨hlen, .inr ⟨w.heap.size, _, _, rfl, Nat.le_refl _, heap_alloc_new w.drew _, hge, hcm, ?_, ?_⟩⟩
    · simp only [Array.size_append, List.size_toArray, size_zeroCells, hzs, hlo, ← Nat.add_mul]
      congr 1
      omega
    · simp only [Array.toList_append, List.append_assoc]
      rw [← List.append_assoc, ← hlen]
      exact List.take_left
  · exact (reps_append hr (Kd.reps_zeros hzs hs0 hz0 k)).imp_ (fun _ _ hp => hflat hp)
  · exact below_alloc (below_drew1 (Below.refl _ _)) _
/-- A row whose cells stand somewhere is read there. -/
theorem C_of_reps {cs : List Value} (hc : ∀ j u, cs[j]? = some u → w.cell? (ad.add j) = some u) (hr : Reps (d.K w) d.sz xs cs) (hl : xs.length ≤ 9223372036854775807) : d.C w (some ad) xs.length xs := by
  refine ⟨rfl, hl, fun _ => ⟨ad, rfl, fun j p hj => ?_⟩⟩
  have hjl : j < xs.length := (List.getElem?_eq_some_iff.1 hj).1
  have h2 : j * d.sz + d.sz ≤ cs.length := by rw [hr.1, ← Nat.succ_mul]; exact Nat.mul_le_mul_right _ hjl
  refine ⟨(cs.drop (j * d.sz)).take d.sz, by rw [List.length_take, List.length_drop]; omega, hr.2 j p hj, fun i u hi => ?_⟩
  have hid : i < d.sz := by have := (List.getElem?_eq_some_iff.1 hi).1; rw [List.length_take] at this; omega
  rw [List.getElem?_take, if_pos hid, List.getElem?_drop] at hi
  exact hc _ u hi
/-- The cells of a new block. -/
theorem cells_new (W : World) (cs : List Value) (e : TypeId) : ∀ j u, cs[j]? = some u → (W.alloc (.cells cs.toArray e)).cell? ((⟨W.heap.size, 0, none⟩ : Addr).add j) = some u := by
  intro j u hj
  have h0 : (⟨W.heap.size, 0, none⟩ : Addr).add j = ⟨W.heap.size, j, none⟩ := by
    unfold Addr.add
    by_cases h : j = 0
    · simp [h]
    · simp [h]
  rw [h0]
  simp [hj]
/-- append(xs[:n:n], x) of a slice that came in. -/
theorem grow_one {P : Program} (t ty e : TypeId) (z : Value) (bytes : Nat) (ht : P.underlying t = some (.slice e))
    (hinfo : (P.info? e).map (fun i => (i.zero, i.size, i.bytes)) = some (some z, d.sz, bytes)) (hzs : z.cells.size = d.sz) (hs0 : 0 < d.sz)
    (hflat : ∀ {x : α} {cs : List Value} {w1 : World} {base : Nat} {ok : Nat → Prop}, d.K w x cs → d.M w1 base ok x cs)
    {A : Option Addr} (h : d.C w A xs.length xs) (b : Addr) (c : Nat) (x : α) (news : List Value) (hn : news.length = d.sz) (hnews : ∀ j u, news[j]? = some u → w.cell? (b.add j) = some u) (hx : d.K w x news)
    (h1 : ∀ u ∈ news, u.oneCell' = true) (hb : (xs.length + 1) * bytes ≤ 140737488355328) (hb0 : 0 < bytes) :
    ∃ v' w', (Builtin.append_ #[t, t] ty #[.slice A xs.length xs.length, .slice (some b) 1 c]).run P w = .ok v' w' ∧ d.R e w' w.heap.size (fun _ => True) v' (xs ++ [x]) ∧ Below w.heap.size w w' := by
  obtain ⟨i, hi, hzz⟩ := Option.map_eq_some_iff.1 hinfo
  simp only [Prod.mk.injEq] at hzz
  obtain ⟨hz, hsz, hby⟩ := hzz
  have hle : xs.length + 1 ≤ 140737488355328 := Nat.le_trans (Nat.le_mul_of_pos_right _ hb0) hb
  have done : ∀ (v' : Value) (w' : World) (olds : List Value), olds.length = xs.length * d.sz → Reps (d.K w) d.sz xs olds → w'.ownsRow w.heap.size e d.sz v' (xs.length + 1) (olds ++ news) → Below w.heap.size w w' →
      d.R e w' w.heap.size (fun _ => True) v' (xs ++ [x]) ∧ Below w.heap.size w w' := fun v' w' olds hlo hr how hbw =>
    ⟨⟨fun _ _ => trivial, olds ++ news, by rw [List.length_append, List.length_singleton]; exact how, (Reps.snoc hr hx hn).imp_ (fun _ _ hp => hflat hp)⟩, hbw⟩
  rcases A with _ | ad
  · have hx0 : xs = [] := by
      rcases Nat.eq_zero_or_pos xs.length with h0 | h0
      · exact List.length_eq_zero_iff.1 h0
      · obtain ⟨ad, he, _⟩ := h.2.2 h0; cases he
    subst hx0
    obtain ⟨v', w', hrun, how, hg, _, _⟩ := run_append_own_at (P := P) w w.heap.size t ty e i z d.sz bytes ht hi hz hsz hby hzs hs0 (.slice none 0 0) 0 [] (World.ownsRow_nil _ _ _ _) b 1 c news (by rw [hn]; omega) hnews h1 (by unfold maxLen; omega) hb (Nat.le_refl _)
    obtain ⟨r1, r2⟩ := done v' w' [] (by simp) (Reps.none _ _) how (pw_below_grown (Below.refl _ _) none (Nat.le_refl _) hg (fun k hk => by cases hk))
    exact ⟨v', w', hrun, r1, r2⟩
  · obtain ⟨olds, hlo, hr, hc⟩ : ∃ olds, olds.length = xs.length * d.sz ∧ Reps (d.K w) d.sz xs olds ∧ ∀ j u, olds[j]? = some u → w.cell? (ad.add j) = some u := by
      rcases Nat.eq_zero_or_pos xs.length with h0 | h0
      · have he : xs = [] := List.length_eq_zero_iff.1 h0
        subst he
        exact ⟨[], by simp, Reps.none _ _, by simp⟩
      · obtain ⟨ad2, he, hc⟩ := h.2.2 h0
        cases he
        obtain ⟨olds, hl, hcell, hr⟩ := reps_of hc
        exact ⟨olds, hl, hr, hcell⟩
    obtain ⟨v', w', hrun, how, hg⟩ := run_append_arg_grows (P := P) w t ty e i z d.sz bytes ht hi hz hsz hby hzs hs0 ad xs.length xs.length olds hlo hc b 1 c news (by rw [hn]; omega) hnews (by omega) (by unfold maxLen; omega) hb
    obtain ⟨r1, r2⟩ := done v' w' olds hlo hr how (pw_below_grown (Below.refl _ _) none (Nat.le_refl _) hg (fun k hk => by cases hk))
    exact ⟨v', w', hrun, r1, r2⟩
end
section
variable {P : Program} {ops : Array Oper} {rest : List Oper} {o : Oper} {a : Act} {Q : Exit → Act → World → Prop}
/-- append, whose run is known. -/
theorem wpList_append_run {W : World} (hgd : o.guard = none) (s x : Operand) (t tx : TypeId) (ho : o.op = .call { callee := .builtin .append, args := #[s, x], argTypes := #[t, tx] }) (v u v1 : Value) (w1 : World) (hs : a.eval s = v) (hx : a.eval x = u)
    (hrun : (Builtin.append_ #[t, tx] o.type #[v, u]).run P W = .ok v1 w1) (h : wpList P ops Q rest (a.put o.dst v1) w1) : wpList P ops Q (o :: rest) a W := by
  refine wpList_plain hgd fun K hK => ?_
  unfold Oper.wp execOp
  simp only [ho, resolve, invoke, builtin, Sem.run_bind, Sem.run_pure, Result.andThen_ok, List.map_toArray, List.map_cons, List.map_nil, hs, hx, hrun]
  exact hK _ _ h
end
end Go.Proofs.Ytlfcepdaicngjaa.Full

/- append([]byte, s...) of a row of the call's own, s a text: where the new row lies, too. -/
namespace Go.Proofs.Ytlfcepdaicngjaa.Hd
set_option linter.unusedVariables false
set_option linter.unusedSimpArgs false
open Go Go.RowKit Go.Proofs.YtlfcepdaicngjaaW.PrintWords Go.Proofs.YtlfcepdaicngjaaW.PrintLast Go.Proofs.YtlfcepdaicngjaaW.PrintMore
theorem append_str_at {P : Program} (w : World) (base : Nat) (t u ty e : TypeId) (i : TypeInfo) (ht : P.underlying t = some (.slice e)) (hu : P.underlying u = some .string) (hi : P.info? e = some i) (hz : i.zero = some (.int .u8 0))
    (hsize : i.size = 1) (hby : i.bytes = 1) (v : Value) (n : Nat) (xs : List Value) (hown : w.ownsRow base e 1 v n xs) (s : ByteArray) (hbytes : n + s.size ≤ 140737488355328) (hbase : base ≤ w.heap.size) :
    ∃ v' w', (Builtin.append_ #[t, u] ty #[v, .string s]).run P w = .ok v' w' ∧ w'.ownsRow base e 1 v' (n + s.size) (xs ++ Lib.strCells s) ∧ w.grownBy w' v.ownBlock ∧ (v'.ownBlock = v.ownBlock ∨ ∃ b, v'.ownBlock = some b ∧ w.heap.size ≤ b) := by
  obtain ⟨v', w', hrun, how, hg, hnil⟩ := Lib.run_append_own_string (P := P) w base t u ty e i ht hu hi hz hsize hby v n xs hown s (by unfold maxLen; omega) hbytes hbase
  refine ⟨v', w', hrun, how, hg, ?_⟩
  have hxl : xs.length = n := by simpa using hown.1
  rcases hown.2 with ⟨rfl, rfl⟩ | ⟨g, cap, cur, rfl, hbg, hgc, hnc, hcm, hcs, htake⟩
  · by_cases hm : s.size = 0
    · left; rw [hnil.2 ⟨rfl, hm⟩]
    · have hr := run_append_nil_string (P := P) w t u ty e i (.int .u8 0) ht hu hi hz s (by omega) (by omega) (by rw [hby]; omega)
      rw [hr] at hrun
      injection hrun with h1 h2
      exact .inr ⟨w.heap.size, by rw [← h1]; rfl, Nat.le_refl _⟩
  · by_cases hroom : n + s.size ≤ cap
    · have hcs' : cur.size = cap := by simpa using hcs
      have hr := Lib.run_append_room_string (P := P) w t u ty e i ht hu hi hsize g n cap cur hgc s hroom (by omega)
      rw [hr] at hrun
      injection hrun with h1 h2
      left; rw [← h1]; rfl
    · have holds : ∀ j u, xs[j]? = some u → w.cell? ((⟨g, 0, none⟩ : Addr).add j) = some u := World.ownsRow.cells hown (g := g) rfl
      have hr := Lib.run_append_grow_string (P := P) w t u ty e i (.int .u8 0) ht hu hi hz ⟨g, 0, none⟩ n cap xs (by rw [hsize]; simpa using hxl) holds s (by omega) (by omega) (by rw [hby]; exact growslice_fits (by omega) (by omega))
      rw [hr] at hrun
      injection hrun with h1 h2
      exact .inr ⟨w.heap.size, by rw [← h1]; rfl, Nat.le_refl _⟩
/-- The bytes of a text, as numbers. -/
def strN (s : ByteArray) : List Int := s.data.toList.map (fun b => (b.toNat : Int))
theorem strN_len (s : ByteArray) : (strN s).length = s.size := by simp [strN]
theorem append_str {P : Program} (W : World) (base : Nat) (t u ty : TypeId) (ht : P.underlying t = some (.slice 5)) (hu : P.underlying u = some .string) (hinfo : (P.info? 5).map (fun i => (i.zero, i.size, i.bytes)) = some (some (.int .u8 0), 1, 1))
    (v : Value) (xs : List Int) (hR : Kd.R (Kd.int .u8) 5 W base (fun k => some k = v.ownBlock) v xs) (s : ByteArray) (hl : xs.length + s.size ≤ 140737488355328) (hbase : base ≤ W.heap.size) :
    ∃ v' w', (Builtin.append_ #[t, u] ty #[v, .string s]).run P W = .ok v' w' ∧ Kd.R (Kd.int .u8) 5 w' base (fun k => some k = v'.ownBlock) v' (xs ++ strN s) ∧ W.grownBy w' v.ownBlock ∧ (v'.ownBlock = v.ownBlock ∨ ∃ b, v'.ownBlock = some b ∧ W.heap.size ≤ b) := by
  obtain ⟨i0, hi, hzz⟩ := Option.map_eq_some_iff.1 hinfo
  simp only [Prod.mk.injEq] at hzz
  obtain ⟨v', w', hrun, how, hg, hat⟩ := append_str_at (P := P) W base t u ty 5 i0 ht hu hi hzz.1 hzz.2.1 hzz.2.2 v xs.length _ (Kd.own_of_R hR) s hl hbase
  refine ⟨v', w', hrun, Kd.R_of_own ?_ (fun k hk => hk.symm), hg, hat⟩
  have hc : encs (Value.int .u8) (xs ++ strN s) = encs (Value.int .u8) xs ++ Lib.strCells s := by simp [encs, strN, Lib.strCells]
  rw [hc, List.length_append, strN_len]
  exact how
end Go.Proofs.Ytlfcepdaicngjaa.Hd

/- An array of whole numbers in a block of its own. -/
namespace Go.Proofs.Ytlfcepdaicngjaa.Ar
set_option linter.unusedVariables false
set_option linter.unusedSimpArgs false
open Go Go.RowKit Go.Proofs.YtlfcepdaicngjaaW.PrintWords Go.Proofs.YtlfcepdaicngjaaW.PrintLast Go.Proofs.YtlfcepdaicngjaaW.PrintMore
/-- Two rows that a function gives back, out of its results' own blocks. -/
theorem results_rows2 {fn : Func} {t u : Tmp} {T U : TypeId} (h : fn.results = #[.cell t T, .cell u U]) (tmps : Array Value) (P : Program) (w : World) (g g2 : Nat) (cs ds : List Value) (d d2 : TypeDesc)
    (h1 : tmps.getD t undef = .pointer (some ⟨g, 0, none⟩)) (h2 : tmps.getD u undef = .pointer (some ⟨g2, 0, none⟩)) (hc : w.rangeAt g 0 cs) (hc2 : w.rangeAt g2 0 ds)
    (hu : P.underlying T = some d) (hd : d.isRow = true) (hi : (P.info? T).map (·.size) = some cs.length) (hu2 : P.underlying U = some d2) (hd2 : d2.isRow = true) (hi2 : (P.info? U).map (·.size) = some ds.length) :
    (results fn tmps).run P w = .ok (.tuple #[.agg cs.toArray, .agg ds.toArray]) w := by
  rw [Array.getD_eq_getD_getElem?] at h1 h2
  simp [results, h, h1, h2, asAddr, run_loadVar_mid w g 0 T cs d hc hu hd hi, run_loadVar_mid w g2 0 U ds d2 hc2 hu2 hd2 hi2]
/-- Cells laid in a block from B on turn nothing below B. -/
theorem below_setCells {B g : Nat} {w0 : World} (hg : B ≤ g) : ∀ (vs : List Value) (o : Nat) (w : World), Below B w0 w → Below B w0 (w.setCells g o vs)
  | [], _, w, h => h
  | v :: r, o, w, h => below_setCells hg r (o + 1) _ (h.setCell (p := ⟨g, o, none⟩) hg v)
theorem rangeAt_below {w w' : World} {B g o : Nat} {cs : List Value} (h : w.rangeAt g o cs) (hb : Below B w w') (hlt : g < B) : w'.rangeAt g o cs := fun j v hj => by rw [hb.cell (p := ⟨g, o + j, none⟩) hlt]; exact h j v hj
/-- A whole row goes into a block's cells, as the walk shows it. -/
theorem run_store_row {P : Program} (w : World) (g : Nat) (cs : List Value) (n : Nat) (hn : cs.length = n) (ht : w.there g 0 n) (h1 : ∀ v ∈ cs, v.oneCell' = true) :
    (storeCells ⟨g, 0, none⟩ cs).run P w = .ok () (w.setCells g 0 cs) := by
  have := run_storeCells_cells (P := P) g 0 cs 0 w (fun j hj => by simpa using (ht j (by omega)).1) (fun j hj => by simpa using (ht j (by omega)).2) h1
  simpa using this
/-- A whole row is read, as the walk shows it. -/
theorem run_load_row {P : Program} (w : World) (g : Nat) (cs : List Value) (n : Nat) (hn : cs.length = n) (h : w.rangeAt g 0 cs) : (loadCells ⟨g, 0, none⟩ n).run P w = .ok cs.toArray w := by
  rw [← hn]
  exact run_loadCells_list w ⟨g, 0, none⟩ cs (fun j v hj => by rw [Addr.add_mid]; exact h j v hj)
section
variable {W W1 : World} {g T : Nat} {k : IntKind} {xs : List Int} {S : Nat → Prop}
def ints (k : IntKind) (xs : List Int) : List Value := xs.map (Value.int k)
def Arr (W : World) (g T : Nat) (k : IntKind) (xs : List Int) : Prop := W.heap[g]? = some (.cells (ints k xs).toArray T (0, 0))
theorem ints_len (k : IntKind) (xs : List Int) : (ints k xs).length = xs.length := by simp [ints]
theorem Arr.lt (h : Arr W g T k xs) : g < W.heap.size := blk_lt h
theorem Arr.cell (h : Arr W g T k xs) (i : Nat) (hi : i < xs.length) : W.cell? ⟨g, i, none⟩ = some (.int k (xs.getD i 0)) := by
  rw [blk_cell h i]
  simp [ints, List.getD_eq_getElem?_getD, List.getElem?_eq_getElem hi]
theorem Arr.frozen (h : Arr W g T k xs) (i : Nat) : W.frozen? ⟨g, i, none⟩ = false := blk_frozen h i
theorem Arr.set (h : Arr W g T k xs) (i : Nat) (x : Int) : Arr (W.setCell ⟨g, i, none⟩ (.int k x)) g T k (xs.set i x) := by
  have h1 := blk_set h i (.int k x)
  unfold Arr
  rw [h1]
  congr 2
  apply Array.ext'
  simp [ints, List.map_set]
theorem Arr.far (h : Arr W g T k xs) {p : Addr} (hp : g ≠ p.block) (u : Value) : Arr (W.setCell p u) g T k xs := blk_far h hp u
theorem Arr.below (h : Arr W g T k xs) (hb : Below W.heap.size W W1) : Arr W1 g T k xs := blk_below h hb
theorem Arr.alloc (h : Arr W g T k xs) (o : Obj) : Arr (W.alloc o) g T k xs := blk_alloc h o
theorem Arr.drewN (h : Arr W g T k xs) (n : Nat) : Arr (W.drewN n) g T k xs := h
theorem Arr.kept (h : Arr W g T k xs) (hk : Kept W W1 S) (hg : ¬ S g) : Arr W1 g T k xs := blk_kept h hk hg
theorem Arr.range (h : Arr W g T k xs) : W.rangeAt g 0 (ints k xs) := fun j v hj => by
  rw [Nat.zero_add, blk_cell h j]
  simpa using hj
theorem Arr.there (h : Arr W g T k xs) : W.there g 0 xs.length := fun j hj => by
  rw [Nat.zero_add]
  exact ⟨by rw [h.cell j hj]; rfl, h.frozen j⟩
theorem Arr.new (W : World) (T : Nat) (k : IntKind) (xs : List Int) : Arr (W.alloc (.cells (ints k xs).toArray T)) W.heap.size T k xs := heap_alloc_new W _
/-- Two new rows, and what is stored into them whole. -/
theorem two_rows (w w0 : World) (B T U : Nat) (k : IntKind) (za zb : List Int) (csA csB : List Value) (ha : csA.length = za.length) (hb : csB.length = zb.length) (na : 0 < za.length) (nb : 0 < zb.length) (hB : B ≤ w.heap.size) (hw : Below B w0 w) :
    ((w.alloc (.cells (ints k za).toArray T)).alloc (.cells (ints k zb).toArray U)).there w.heap.size 0 za.length
    ∧ (((w.alloc (.cells (ints k za).toArray T)).alloc (.cells (ints k zb).toArray U)).setCells w.heap.size 0 csA).there (w.heap.size + 1) 0 zb.length
    ∧ ((((w.alloc (.cells (ints k za).toArray T)).alloc (.cells (ints k zb).toArray U)).setCells w.heap.size 0 csA).setCells (w.heap.size + 1) 0 csB).rangeAt w.heap.size 0 csA
    ∧ ((((w.alloc (.cells (ints k za).toArray T)).alloc (.cells (ints k zb).toArray U)).setCells w.heap.size 0 csA).setCells (w.heap.size + 1) 0 csB).rangeAt (w.heap.size + 1) 0 csB
    ∧ Below B w0 ((((w.alloc (.cells (ints k za).toArray T)).alloc (.cells (ints k zb).toArray U)).setCells w.heap.size 0 csA).setCells (w.heap.size + 1) 0 csB)
    ∧ w.heap.size + 1 < ((((w.alloc (.cells (ints k za).toArray T)).alloc (.cells (ints k zb).toArray U)).setCells w.heap.size 0 csA).setCells (w.heap.size + 1) 0 csB).heap.size := by
  have hA := (Arr.new w T k za).alloc (.cells (ints k zb).toArray U)
  have hs : (w.alloc (.cells (ints k za).toArray T)).heap.size = w.heap.size + 1 := by simp
  have hZ := Arr.new (w.alloc (.cells (ints k za).toArray T)) U k zb
  rw [hs] at hZ
  have t1 := hA.there
  have t2 := World.there_setCells hZ.there w.heap.size 0 csA
  have t2' := t2
  rw [← hb] at t2'
  have r2 := World.rangeAt_setCells_same _ _ _ _ t2'
  refine ⟨t1, t2, World.rangeAt_setCells_apart (World.rangeAt_setCells_same _ _ _ _ (by rw [ha]; exact t1)) _ _ _ (by omega), r2, ?_, ?_⟩
  · exact below_setCells (by omega) _ _ _ (below_setCells (by omega) _ _ _ ((hw.alloc hB _).alloc (by rw [hs]; omega) _))
  · have h0 : csB[0]? = some csB[0] := List.getElem?_eq_getElem (by omega)
    exact World.block_lt_of_cell? _ _ (r2 0 _ h0)
end
end Go.Proofs.Ytlfcepdaicngjaa.Ar

/- prefix.Words: the words of lengths (arrays count, next), in the printer's form: the walk. -/
namespace Go.Proofs.Ytlfcepdaicngjaa.P
set_option linter.unusedVariables false
set_option linter.unusedSimpArgs false
open Go Go.RowKit Go.Proofs.Ytlfcepdaicngjaa.Ar Go.Proofs.YtlfcepdaicngjaaW.PrintWords Go.Proofs.YtlfcepdaicngjaaW.PrintLast Go.Proofs.YtlfcepdaicngjaaW.PrintMore
def zeros17 : List Int := List.replicate 17 0
def cntW (l : List Int) : List Int := l.foldl (fun xs x => xs.set x.toNat ((xs.getD x.toNat 0 + 1) % 4294967296)) zeros17
def nextW (c : List Int) : Nat → List Int
  | 0 => zeros17
  | m + 1 => (nextW c m).set (m + 2) ((((nextW c m).getD (m + 1) 0 + c.getD (m + 1) 0) % 4294967296 * 2) % 4294967296)
def stepW (p : List Int × List Int) (x : Int) : List Int × List Int := if x > 0 then (p.1.set x.toNat ((p.1.getD x.toNat 0 + 1) % 4294967296), p.2 ++ [p.1.getD x.toNat 0]) else (p.1, p.2 ++ [0])
def wordsW (l : List Int) : List Int × List Int := l.foldl stepW (nextW ((cntW l).set 0 0) 15, [])
theorem wordsW_snoc (c : List Int) (l : List Int) (x : Int) : (l ++ [x]).foldl stepW (nextW c 15, []) = stepW (l.foldl stepW (nextW c 15, [])) x := by simp
theorem cntW_snoc (l : List Int) (x : Int) : cntW (l ++ [x]) = (cntW l).set x.toNat (((cntW l).getD x.toNat 0 + 1) % 4294967296) := by simp [cntW]
theorem cntW_len (l : List Int) : (cntW l).length = 17 := by
  have key : ∀ (l xs : List Int), (l.foldl (fun xs x => xs.set x.toNat ((xs.getD x.toNat 0 + 1) % 4294967296)) xs).length = xs.length := by
    intro l
    induction l with
    | nil => intro xs; rfl
    | cons x l ih => intro xs; rw [List.foldl_cons, ih, List.length_set]
  unfold cntW; rw [key]; rfl
theorem nextW_len (c : List Int) : ∀ m, (nextW c m).length = 17
  | 0 => rfl
  | m + 1 => by rw [nextW, List.length_set]; exact nextW_len c m
theorem foldW_len (l : List Int) : ∀ p : List Int × List Int, (l.foldl stepW p).1.length = p.1.length ∧ (l.foldl stepW p).2.length = p.2.length + l.length := by
  induction l with
  | nil => intro p; exact ⟨rfl, rfl⟩
  | cons x l ih =>
    intro p
    rw [List.foldl_cons, (ih _).1, (ih _).2]
    unfold stepW
    split
    · simp; omega
    · simp; omega
def okW (l : List Int) : Bool := decide (l.length ≤ 4096) && l.all (fun x => decide (0 ≤ x) && decide (x ≤ 15))
def prefix_Words.f (l0 : List Int) : Option (List Int × Int) := (prefix_Fill.f 5000 l0).bind fun b => if b.2 = 0 then (if b.1 > 32768 then some ([], 10) else (if okW l0 = true then some ((wordsW l0).2, 0) else none)) else some ([], b.2)
theorem info60W : (Try.prog.info? 60).map (fun i => (i.zero, i.size, i.bytes)) = some (some (.int .u32 0), 1, 4) := by kernel_rfl
theorem set_rep (a : List Int) (k : Nat) (v : Int) : (a ++ List.replicate (k + 1) 0).set a.length v = a ++ [v] ++ List.replicate k 0 := by
  rw [List.set_append_right _ _ (Nat.le_refl _), Nat.sub_self, List.replicate_succ, List.set_cons_zero]; simp
theorem zero83 : (#[.int .u32 0, .int .u32 0, .int .u32 0, .int .u32 0, .int .u32 0, .int .u32 0, .int .u32 0, .int .u32 0, .int .u32 0, .int .u32 0, .int .u32 0, .int .u32 0, .int .u32 0, .int .u32 0, .int .u32 0, .int .u32 0, .int .u32 0] : Array Value) = (ints .u32 zeros17).toArray := by kernel_rfl
set_option maxHeartbeats 4000000 in
set_option maxRecDepth 100000 in
theorem prefix_Words.calls (A0 : Option Addr) (c0 : Nat) (l0 : List Int) (r1 : List Int) (r2 : Int) (w : World) (hr0 : Kd.C (Kd.int .u8) w A0 l0.length l0) (hc0 : l0.length ≤ c0) (h : prefix_Words.f l0 = some (r1, r2)) :
    Calls Try.prog 21 #[.slice A0 l0.length c0] w fun e w' => ∃ v0_ : Value, e = .returned (.tuple #[v0_, .int .i64 r2]) ∧ Kd.R (Kd.int .u32) 60 w' w.heap.size (fun _ => True) v0_ r1 ∧ Below w.heap.size w w' := by
  unfold prefix_Words.f at h
  obtain ⟨⟨n, e⟩, hF, h⟩ := Option.bind_eq_some_iff.1 h
  replace h : (if e = 0 then (if n > 32768 then some (([] : List Int), (10 : Int)) else (if okW l0 = true then some ((wordsW l0).2, 0) else none)) else some ([], e)) = some (r1, r2) := h
  have HF := Aside0.mk hF
  have HR := Aside0.mk hr0
  have HC := Aside0.mk hc0
  clear hF hr0 hc0
  by_cases he : e = 0
  case neg =>
    rw [if_neg he] at h
    have hb : (e != 0) = true := bne_iff_ne.mpr he
    clear he
    simp only [Option.some.injEq, Prod.mk.injEq] at h
    obtain ⟨rfl, rfl⟩ := h
    go_enter Try.func21, Try.ntmps21
    go_wp2_with (go_at_call 22; refine (prefix_Fill.calls 5000 _ _ l0 _ _ _ HR.out HC.out HF.out).mono ?_; rintro e w' ⟨rfl, ⟨nd, rfl⟩⟩)
    go_ret2
    exact ⟨_, rfl, Kd.R_nil _ _ _ _ _, pw_below_drewN (Below.refl _ _) _⟩
  rw [if_pos he] at h
  subst he
  by_cases hn : n > 32768
  · rw [if_pos hn] at h
    have hb : decide (32768 < n) = true := decide_eq_true hn
    clear hn
    simp only [Option.some.injEq, Prod.mk.injEq] at h
    obtain ⟨rfl, rfl⟩ := h
    go_enter Try.func21, Try.ntmps21
    go_wp2_with (go_at_call 22; refine (prefix_Fill.calls 5000 _ _ l0 _ _ _ HR.out HC.out HF.out).mono ?_; rintro e w' ⟨rfl, ⟨nd, rfl⟩⟩)
    go_ret2
    exact ⟨_, rfl, Kd.R_nil _ _ _ _ _, pw_below_drewN (Below.refl _ _) _⟩
  rw [if_neg hn] at h
  have hb : decide (32768 < n) = false := decide_eq_false hn
  clear hn
  by_cases hok : okW l0 = true
  case neg => rw [if_neg hok] at h; cases h
  rw [if_pos hok] at h
  simp only [Option.some.injEq, Prod.mk.injEq] at h
  obtain ⟨rfl, rfl⟩ := h
  obtain ⟨hlen, hall⟩ : l0.length ≤ 4096 ∧ ∀ x ∈ l0, 0 ≤ x ∧ x ≤ 15 := by simpa [okW] using hok
  have HALL := Aside0.mk hall
  have HLEN := Aside0.mk hlen
  clear hok hall hlen
  have hz := zero83
  go_enter Try.func21, Try.ntmps21
  go_upto_region 6 with (go_at_call 22; refine (prefix_Fill.calls 5000 _ _ l0 _ _ _ HR.out HC.out HF.out).mono ?_; rintro e w' ⟨rfl, ⟨nd, rfl⟩⟩)
  go_upto_region 7 with (fail)
  have HA := Aside0.mk ((Arr.new (w.drewN nd) 83 .u32 zeros17).alloc (.cells (ints .u32 zeros17).toArray 83))
  have HN := Aside0.mk (Arr.new ((w.drewN nd).alloc (.cells (ints .u32 zeros17).toArray 83)) 83 .u32 zeros17)
  have HB := Aside0.mk (below_alloc (below_alloc (pw_below_drewN (Below.refl w.heap.size w) nd) (.cells (ints .u32 zeros17).toArray 83)) (.cells (ints .u32 zeros17).toArray 83))
  have hs1 : ((w.drewN nd).alloc (.cells (ints .u32 zeros17).toArray 83)).heap.size = w.heap.size + 1 := by simp
  have hs0 : (w.drewN nd).heap.size = w.heap.size := by simp
  rw [hs1] at HN
  rw [hs0] at HA
  generalize ((w.drewN nd).alloc (.cells (ints .u32 zeros17).toArray 83)).alloc (.cells (ints .u32 zeros17).toArray 83) = w2 at HA HN HB ⊢
  clear hs1 hs0 hz h
  obtain ⟨gN, hgN⟩ : ∃ g, w.heap.size + 1 = g := ⟨_, rfl⟩
  rw [hgN] at HN ⊢
  have HG := Aside0.mk hgN
  clear hgN
  have hlen := HLEN.out
  go_wp2
  go_loopw [28] (fun v28 wr => ∃ j : Nat, v28 = .int .i64 j ∧ j ≤ l0.length ∧ Aside0 (Arr wr w.heap.size 83 .u32 (cntW (l0.take j))) ∧ Aside0 (Arr wr gN 83 .u32 zeros17) ∧ Aside0 (Below w.heap.size w wr))
    (fun v _ => l0.length - (intOf v).toNat)
  case atStart => exact ⟨0, rfl, by omega, HA, HN, HB⟩
  case round =>
    clear HA HN HB
    obtain ⟨j, rfl, hj, HA, HN, HB⟩ := hrel
    by_cases hlt : j < l0.length
    · have hd : decide (j < l0.length) = true := decide_eq_true hlt
      obtain ⟨ad, hA, hx⟩ := Kd.at_int HR.out (j : Int) (by omega) (by omega)
      cases hA
      replace hx := (HB.out.cell (World.block_lt_of_cell? w _ hx)).trans hx
      have hg : rd l0 (j : Int) = l0[j] := by unfold rd; rw [List.getD_eq_getElem?_getD, Int.toNat_natCast, List.getElem?_eq_getElem hlt]; rfl
      rw [hg] at hx
      simp only [Int.toNat_natCast] at hx
      have hr := HALL.out _ (List.getElem_mem hlt)
      have hsn : cntW (l0.take (j + 1)) = (cntW (l0.take j)).set l0[j].toNat (((cntW (l0.take j)).getD l0[j].toNat 0 + 1) % 4294967296) := by rw [List.take_succ_eq_append_getElem hlt, cntW_snoc]
      have hl1 := cntW_len (l0.take j)
      obtain ⟨x, hxx⟩ : ∃ x, l0[j] = x := ⟨_, rfl⟩
      rw [hxx] at hx hr hsn
      have HSN := Aside0.mk hsn
      clear hsn hg hxx
      have hcell := HA.out.cell x.toNat (by omega)
      have hfr := HA.out.frozen x.toNat
      have hi1 : decide (0 ≤ x) = true := decide_eq_true (by omega)
      have hi2 : decide (x < 17) = true := decide_eq_true (by omega)
      go_wp2
      have hg := HG.out
      refine ⟨⟨j + 1, by go_num, by omega, ⟨by rw [HSN.out]; exact HA.out.set _ _⟩, ⟨HN.out.far (by simp; omega) _⟩, ⟨below_set HB.out (by omega)⟩⟩, by simp [intOf]; omega⟩
    · have hd : decide (j < l0.length) = false := decide_eq_false hlt
      obtain rfl : j = l0.length := by omega
      rw [List.take_length] at HA
      have hl1 := cntW_len l0
      have hcell := HA.out.cell 0 (by omega)
      have hfr := HA.out.frozen 0
      go_upto_region 13 with (fail)
      have HA2 := Aside0.mk (HA.out.set 0 0)
      have HN2 := Aside0.mk (HN.out.far (p := ⟨w.heap.size, 0, none⟩) (by show gN ≠ w.heap.size; have := HG.out; omega) (.int .u32 0))
      have HB2 := Aside0.mk (show Below w.heap.size w (wr.setCell ⟨w.heap.size, 0, none⟩ (.int .u32 0)) from below_set HB.out (Nat.le_refl _))
      generalize wr.setCell ⟨w.heap.size, 0, none⟩ (.int .u32 0) = w3 at HA2 HN2 HB2 ⊢
      clear HA HN HB hcell hfr
      have hlc : ((cntW l0).set 0 0).length = 17 := by rw [List.length_set]; exact hl1
      obtain ⟨c, hc⟩ : ∃ c, (cntW l0).set 0 0 = c := ⟨_, rfl⟩
      rw [hc] at HA2 hlc
      have HCC := Aside0.mk hc
      clear hc hl1 hd
      go_wp2
      go_loopw [10] (fun v10 wr => ∃ m : Nat, v10 = .int .i64 m ∧ 1 ≤ m ∧ m ≤ 16 ∧ Aside0 (Arr wr w.heap.size 83 .u32 c) ∧ Aside0 (Arr wr gN 83 .u32 (nextW c (m - 1))) ∧ Aside0 (Below w.heap.size w wr))
        (fun v _ => 16 - (intOf v).toNat)
      case atStart => exact ⟨1, rfl, by omega, by omega, HA2, HN2, HB2⟩
      case round =>
        clear HA2 HN2 HB2
        obtain ⟨m, rfl, hm1, hm, HA, HN, HB⟩ := hrel
        have hln := nextW_len c (m - 1)
        by_cases hlt : m ≤ 15
        · have hd : decide (m ≤ 15) = true := decide_eq_true hlt
          have hns : nextW c (m - 1 + 1) = (nextW c (m - 1)).set (m - 1 + 2) ((((nextW c (m - 1)).getD (m - 1 + 1) 0 + c.getD (m - 1 + 1) 0) % 4294967296 * 2) % 4294967296) := nextW.eq_2 _ _
          rw [show m - 1 + 1 = m by omega, show m - 1 + 2 = m + 1 by omega] at hns
          obtain ⟨xs, hxs⟩ : ∃ xs, nextW c (m - 1) = xs := ⟨_, rfl⟩
          rw [hxs] at HN hns hln
          have HNS := Aside0.mk hns
          clear hns hxs
          have hc1 := HA.out.cell m (by omega)
          have hc2 := HN.out.cell m (by omega)
          have hc3 := HN.out.cell (m + 1) (by omega)
          have hf3 := HN.out.frozen (m + 1)
          have hb1 : decide (m < 17) = true := decide_eq_true (by omega)
          have hb2 : decide (m + 1 < 17) = true := decide_eq_true (by omega)
          go_wp2
          go_region
          simp only [List.getD_eq_getElem?_getD] at HNS
          go_wp2
          have hg := HG.out
          refine ⟨⟨m + 1, by go_num, by omega, by omega, ⟨Arr.far (Arr.drewN HA.out 1) (by show w.heap.size ≠ gN; omega) _⟩, ⟨by rw [show m + 1 - 1 = m by omega, HNS.out]; exact Arr.set (Arr.drewN HN.out 1) _ _⟩, ⟨below_set (pw_below_drewN HB.out 1) (by omega)⟩⟩, by simp [intOf]; omega⟩
        · have hd : decide (m ≤ 15) = false := decide_eq_false hlt
          obtain rfl : m = 16 := by omega
          clear HA
          have hi60 := info60W
          have hgl := HN.out.lt
          have HGL := Aside0.mk hgl
          clear hgl
          go_upto_region 18 with ((with_reducible refine gate_dst (N := 56) rfl ?_); refine Kd.R_make (Kd.int .u32) w.heap.size 60 rfl (N := 56) rfl 57 _ _ rfl (l0.length : Int) rfl rfl Try.underlying57 (.int .u32 0) 4 info60W rfl (by decide) (by omega) (0 : Int) (ok := fun k => gN < k) (okp := fun k => gN < k) rfl (fun _ hk => hk) HGL.out (by omega) (by omega) HB.out HB.out.size ?_; intro vo w7 ho hb hgr hnew)
          have HN7 : Aside0 (Arr w7 gN 83 .u32 (nextW c 15)) := ⟨(hgr.block gN HGL.out (by simp)).trans HN.out⟩
          have HO := Aside0.mk ho
          have HB7 := Aside0.mk hb
          clear hgr hnew ho hb HN HB HGL hi60 hln hd
          simp only [Int.toNat_natCast] at HO
          go_wp2
          go_loopw [59] (fun v59 wr => ∃ j : Nat, v59 = .int .i64 j ∧ j ≤ l0.length ∧ Aside0 (Arr wr gN 83 .u32 ((l0.take j).foldl stepW (nextW c 15, [])).1) ∧ Aside0 ((Kd.int .u32).R 60 wr w.heap.size (fun k => gN < k) vo (((l0.take j).foldl stepW (nextW c 15, [])).2 ++ List.replicate (l0.length - j) 0)) ∧ Aside0 (Below w.heap.size w wr))
            (fun v _ => l0.length - (intOf v).toNat)
          case atStart => exact ⟨0, rfl, by omega, HN7, HO, HB7⟩
          case round =>
            clear HN7 HO HB7
            obtain ⟨j, rfl, hj, HN, HO, HB⟩ := hrel
            have hfl := foldW_len (l0.take j) (nextW c 15, [])
            have hl1 : ((l0.take j).foldl stepW (nextW c 15, [])).1.length = 17 := hfl.1.trans (nextW_len c 15)
            have hl2 : ((l0.take j).foldl stepW (nextW c 15, [])).2.length = j := by rw [hfl.2, List.length_take]; simp; omega
            clear hfl
            by_cases hlt : j < l0.length
            · have hd : decide (j < l0.length) = true := decide_eq_true hlt
              obtain ⟨ad, hA, hx⟩ := Kd.at_int HR.out (j : Int) (by omega) (by omega)
              cases hA
              replace hx := (HB.out.cell (World.block_lt_of_cell? w _ hx)).trans hx
              have hg : rd l0 (j : Int) = l0[j] := by unfold rd; rw [List.getD_eq_getElem?_getD, Int.toNat_natCast, List.getElem?_eq_getElem hlt]; rfl
              rw [hg] at hx
              simp only [Int.toNat_natCast] at hx
              have hr := HALL.out _ (List.getElem_mem hlt)
              have hsn : (l0.take (j + 1)).foldl stepW (nextW c 15, []) = stepW ((l0.take j).foldl stepW (nextW c 15, [])) l0[j] := by rw [List.take_succ_eq_append_getElem hlt, wordsW_snoc]
              obtain ⟨p, hp⟩ : ∃ p, (l0.take j).foldl stepW (nextW c 15, []) = p := ⟨_, rfl⟩
              obtain ⟨x, hxx⟩ : ∃ x, l0[j] = x := ⟨_, rfl⟩
              rw [hp] at HN HO hsn hl1 hl2
              rw [hxx] at hx hr hsn
              have HSN := Aside0.mk hsn
              clear hsn hg hxx hp
              obtain ⟨k, hk⟩ : ∃ k, l0.length - j = k + 1 := ⟨l0.length - j - 1, by omega⟩
              rw [hk] at HO
              have hk2 : l0.length - (j + 1) = k := by omega
              have HK := Aside0.mk hk2
              clear hk hk2
              by_cases hz : x > 0
              · have hst : stepW p x = (p.1.set x.toNat ((p.1.getD x.toNat 0 + 1) % 4294967296), p.2 ++ [p.1.getD x.toNat 0]) := by unfold stepW; rw [if_pos hz]
                rw [hst] at HSN
                have hzb : decide (0 < x) = true := decide_eq_true hz
                have hset := set_rep p.2 k (p.1.getD x.toNat 0)
                rw [hl2] at hset
                obtain ⟨os, hos⟩ : ∃ os, p.2 ++ List.replicate (k + 1) 0 = os := ⟨_, rfl⟩
                have hlo : os.length = l0.length := by rw [← hos, List.length_append, List.length_replicate, hl2]; have := HK.out; omega
                rw [hos] at HO hset
                have HSET := Aside0.mk hset
                clear hos hset hst
                obtain ⟨go, co, eo, gb, gl, cl, hgo⟩ := Kd.R_form HO.out (by omega)
                rw [hlo] at eo
                subst eo
                have hgN : gN < go := HO.out.1 go rfl
                have HGO := Aside0.mk hgN
                have HGB := Aside0.mk gb
                clear gb gl hgo
                obtain ⟨hc3, hf3⟩ := Kd.R_celln (0 : Int) HO.out (j : Int) (by omega) (by omega)
                simp only [Int.toNat_natCast] at hc3 hf3
                have hcell := HN.out.cell x.toNat (by omega)
                have hfr := HN.out.frozen x.toNat
                have hi1 : decide (0 ≤ x) = true := decide_eq_true (by omega)
                have hi2 : decide (x < 17) = true := decide_eq_true (by omega)
                have hne : gN ≠ go := by omega
                have hne2 : go ≠ gN := by omega
                clear hgN
                go_wp2
                simp only [List.getD_eq_getElem?_getD] at HSN HSET
                have hgb := HGB.out
                have hh := HG.out
                have ho1 := Kd.R_putn HO.out (j : Int) (p.1[x.toNat]?.getD 0)
                simp only [Int.toNat_natCast] at ho1
                rw [HSET.out] at ho1
                have ho2 := Kd.R_far ho1 (p := ⟨gN, x.toNat, none⟩) (fun k hk => by show k ≠ gN; omega) (.int .u32 ((p.1[x.toNat]?.getD 0 + 1) % 4294967296))
                refine ⟨⟨j + 1, by go_num, by omega, ⟨by rw [HSN.out]; exact Arr.set (Arr.far HN.out (by show gN ≠ go; omega) _) _ _⟩, ⟨by rw [HSN.out, HK.out]; exact ho2⟩, ⟨below_set (below_set HB.out (by omega)) (by omega)⟩⟩, by simp [intOf]; omega⟩
              · obtain rfl : x = 0 := by omega
                have hst : stepW p 0 = (p.1, p.2 ++ [0]) := by unfold stepW; rw [if_neg (by omega)]
                rw [hst] at HSN
                go_wp2
                go_roundw
                case rel => exact ⟨j + 1, by go_num, by omega, by rw [HSN.out]; exact HN, by rw [HSN.out, HK.out, List.append_assoc]; exact HO, HB⟩
                case measure => simp [intOf]; omega
            · have hd : decide (j < l0.length) = false := decide_eq_false hlt
              obtain rfl : j = l0.length := by omega
              rw [List.take_length, Nat.sub_self, List.replicate_zero, List.append_nil, ← HCC.out] at HO
              go_wp2
              go_ret2
              exact ⟨_, rfl, Kd.R_mono HO.out (fun _ _ => trivial), HB.out⟩
end Go.Proofs.Ytlfcepdaicngjaa.P

/- slices.Clone of bytes, in the printer's form: the walk. -/
namespace Go.Proofs.Ytlfcepdaicngjaa.P
set_option linter.unusedVariables false
set_option linter.unusedSimpArgs false
open Go Go.RowKit Go.Proofs.YtlfcepdaicngjaaW.PrintWords Go.Proofs.YtlfcepdaicngjaaW.PrintLast Go.Proofs.YtlfcepdaicngjaaW.PrintMore
theorem info5W : (Try.prog.info? 5).map (fun i => (i.zero, i.size, i.bytes)) = some (some (.int .u8 0), 1, 1) := by kernel_rfl
def slices_Clone_uint8_uint8.f (l0 : List Int) : Option (List Int) := if l0.length ≤ 5000 then some l0 else none
set_option maxHeartbeats 4000000 in
set_option maxRecDepth 100000 in
theorem slices_Clone_uint8_uint8.calls (A0 : Option Addr) (c0 : Nat) (l0 : List Int) (r : List Int) (w : World) (hr0 : Kd.C (Kd.int .u8) w A0 l0.length l0) (hc0 : l0.length ≤ c0) (h : slices_Clone_uint8_uint8.f l0 = some r) :
    Calls Try.prog 24 #[.slice A0 l0.length c0] w fun e w' => ∃ v0_ : Value, e = .returned (v0_) ∧ Kd.R (Kd.int .u8) 5 w' w.heap.size (fun _ => True) v0_ r ∧ Below w.heap.size w w' := by
  unfold slices_Clone_uint8_uint8.f at h
  by_cases hl : l0.length ≤ 5000
  case neg => rw [if_neg hl] at h; cases h
  rw [if_pos hl] at h
  obtain rfl := Option.some.inj h
  cases A0 with
  | none =>
    have hl0 : l0 = [] := by
      cases l0 with
      | nil => rfl
      | cons x l =>
        obtain ⟨ad, e1, _⟩ := Kd.at_int hr0 0 (by omega) (by simp)
        cases e1
    subst hl0
    have q22 := Lib.run_eql_slice_nil (P := Try.prog) w 22 5 none 0 c0 0 0 Try.underlying22
    go_enter Try.func24, Try.ntmps24
    go_wp2
    go_ret
    exact ⟨_, rfl, Kd.R_nil _ _ _ _ _, Below.refl _ _⟩
  | some a =>
    have q22 := Lib.run_eql_slice_nil (P := Try.prog) w 22 5 (some a) l0.length c0 0 0 Try.underlying22
    have hown : (w.alloc (.cells #[] 5)).ownsRow w.heap.size 5 1 (.slice (some ⟨w.heap.size, 0, none⟩) 0 0) ([] : List Int).length (encs (Value.int .u8) []) := ⟨rfl, .inr ⟨w.heap.size, 0, #[], rfl, Nat.le_refl _, heap_alloc_new w _, Nat.le_refl _, by decide, rfl, rfl⟩⟩
    have HO := Aside0.mk (show (Kd.int .u8).R 5 (w.alloc (.cells #[] 5)) w.heap.size (fun _ => True) (.slice (some ⟨w.heap.size, 0, none⟩) 0 0) [] from Kd.R_of_own hown (fun _ _ => trivial))
    have HR := Aside0.mk (Kd.C_alloc hr0 (.cells #[] 5))
    have HB := Aside0.mk (below_alloc (Below.refl w.heap.size w) (.cells #[] 5))
    clear hown hr0 hc0
    go_enter Try.func24, Try.ntmps24
    go_wp2_with (at_builtin; refine Kd.R_append_row (Value.int .u8) 0 (w0 := w) w.heap.size rfl (.tmp 5) (.tmp 6) 22 5 (.int .u8 0) 1 rfl Try.underlying22 info5W rfl (by decide) _ [] l0 _ l0.length c0 (fun _ => True) rfl rfl (fun _ _ => trivial) HO.out HR.out HB.out HB.out.size (by simp; omega) ?_; intro v1 w1 ho hb _ _; have HO1 := Aside0.mk ho; have HB1 := Aside0.mk hb; clear ho hb)
    go_ret
    exact ⟨_, rfl, HO1.out, HB1.out⟩
end Go.Proofs.Ytlfcepdaicngjaa.P

/- A map of the call's own from keys to plain values, told as a function: read, and stored into. -/
namespace Go.Proofs.Ytlfcepdaicngjaa.MapV
set_option linter.unusedVariables false
set_option linter.unusedSimpArgs false
set_option linter.unusedSectionVars false
open Go Go.RowKit Go.MapKept Go.ChangeMaps Go.Maps Go.Proofs.YtlfcepdaicngjaaW.PrintWords Go.Proofs.YtlfcepdaicngjaaW.PrintLast Go.Proofs.YtlfcepdaicngjaaW.PrintMore
section
variable {P : Program} {κ : Type} [DecidableEq κ] {enc : κ → Value} {k : TypeId}

/-- What a map tells behind a store. -/
def upd (g : κ → Option Value) (a : κ) (v : Value) : κ → Option Value := fun c => if c = a then some v else g c
/-- Block b of w is a map that tells g. -/
def OwnsV (enc : κ → Value) (w : World) (b : Nat) (g : κ → Option Value) : Prop :=
  ∃ es clock, w.heap[b]? = some (.map es clock) ∧ (∀ x ∈ es.toList, ∃ a, x.key = enc a) ∧ (es.toList.map (·.key)).Nodup ∧ (∀ a v, g a = some v ↔ ∃ x ∈ es.toList, x.key = enc a ∧ x.val = v) ∧ (∀ x ∈ es.toList, x.born < clock) ∧ (es.toList.map (·.born)).Nodup

theorem made (w : World) : OwnsV enc (w.alloc (.map #[] 0)) w.heap.size (fun _ => none) :=
  ⟨#[], 0, (heap_alloc w _).1, by simp, by simp, by simp, by simp, by simp⟩
theorem OwnsV.lt {w : World} {b : Nat} {g : κ → Option Value} (h : OwnsV enc w b g) : b < w.heap.size := by
  obtain ⟨es, clock, hm, _⟩ := h
  exact (Array.getElem?_eq_some_iff.1 hm).1
theorem OwnsV.move {w w1 : World} {b : Nat} {g : κ → Option Value} (h : OwnsV enc w b g) (hb : w1.heap[b]? = w.heap[b]?) : OwnsV enc w1 b g := by
  obtain ⟨es, clock, hm, h1, h2, h3, h4, h5⟩ := h
  exact ⟨es, clock, hb.trans hm, h1, h2, h3, h4, h5⟩
theorem OwnsV.grown {w w1 : World} {b : Nat} {g : κ → Option Value} {row : Option Nat} (h : OwnsV enc w b g) (hg : w.grownBy w1 row) (hb : some b ≠ row) : OwnsV enc w1 b g := h.move (hg.block b h.lt hb)
theorem OwnsV.below {w w1 : World} {b : Nat} {g : κ → Option Value} (h : OwnsV enc w b g) (hb : Below w.heap.size w w1) : OwnsV enc w1 b g := h.move (hb.block b h.lt)
theorem grown_block {w : World} {b : Nat} {es es' : Array MapEntry} {c c' : Nat} (hb : w.heap[b]? = some (.map es c)) : w.grownBy (setBlock w b (.map es' c')) (some b) :=
  ⟨rfl, rfl, rfl, by simp [setBlock], fun i _ hne => heap_setBlock_other hb _ (fun e => hne (by rw [e]))⟩
theorem push_lt {es : Array MapEntry} {clock : Nat} (h4 : ∀ x ∈ es.toList, x.born < clock) (u v : Value) : ∀ x ∈ (es.push ⟨u, v, clock⟩).toList, x.born < clock + 1 := by
  intro x hx
  rw [Array.toList_push] at hx
  rcases List.mem_append.1 hx with hx | hx
  · have := h4 x hx; omega
  · rw [List.mem_singleton.1 hx]; simp
theorem push_nd {es : Array MapEntry} {clock : Nat} (h4 : ∀ x ∈ es.toList, x.born < clock) (h5 : (es.toList.map (·.born)).Nodup) (u v : Value) : ((es.push ⟨u, v, clock⟩).toList.map (·.born)).Nodup := by
  rw [Array.toList_push, List.map_append]
  refine List.nodup_append.2 ⟨h5, by simp, fun q hq c hc e1 => ?_⟩
  simp only [List.map_cons, List.map_nil, List.mem_singleton] at hc
  obtain ⟨x, hx, rfl⟩ := List.mem_map.1 hq
  have := h4 x hx
  omega
section
variable {t E : TypeId} {w : World} {b : Nat} {g : κ → Option Value}
theorem find_key (K : Keyed P k) (hkey : ∀ a : κ, ∃ l, keyOf P k (enc a) = some l) {es : Array MapEntry} (h1 : ∀ x ∈ es.toList, ∃ a, x.key = enc a) (a : κ) :
    ((Instr.findKey k (enc a) es.toList).run P w = .ok none w ∧ ∀ e ∈ es.toList, e.key ≠ enc a) ∨ ∃ j e, (Instr.findKey k (enc a) es.toList).run P w = .ok (some (j, e.val)) w ∧ es.toList[j]? = some e ∧ e.key = enc a := by
  obtain ⟨kl, hkl⟩ := hkey a
  refine K.find w hkl es.toList (fun e he => ?_)
  obtain ⟨c, hc⟩ := h1 e he
  rw [hc]
  exact hkey c
/-- m[a], with or without 'ok'. -/
theorem lookup_run (K : Keyed P k) (ht : P.underlying t = some (.map k E)) {z : Value} (hz : ∀ u : World, (zeroValue E).run P u = .ok z u) (hinj : ∀ a c : κ, enc a = enc c → a = c) (hkey : ∀ a : κ, ∃ l, keyOf P k (enc a) = some l)
    (h : OwnsV enc w b g) (a : κ) (ok : Bool) : (Instr.lookup t (.map (some b)) (enc a) ok).run P w = .ok (if ok then .tuple #[(g a).getD z, .bool (g a).isSome] else (g a).getD z) w := by
  obtain ⟨es, clock, hm, h1, h2, h3, h4, h5⟩ := h
  obtain ⟨kl, hkl⟩ := hkey a
  rcases find_key (w := w) K hkey h1 a with ⟨hf, hno⟩ | ⟨j, e0, hf, hj, he⟩
  · have hg : g a = none := by
      cases hga : g a with
      | none => rfl
      | some v => obtain ⟨x, hx, hxk, _⟩ := (h3 a v).1 hga; exact absurd hxk (hno x hx)
    rw [hg]
    simp [Instr.lookup, run_underlying ht, MapKept.run_getObj_map hm, K.check w _ hkl, hf, hz, Result.andThen]
  · have hg : g a = some e0.val := (h3 a _).2 ⟨e0, List.mem_of_getElem? hj, he, rfl⟩
    rw [hg]
    simp [Instr.lookup, run_underlying ht, MapKept.run_getObj_map hm, K.check w _ hkl, hf, Result.andThen]
theorem owns_push {es : Array MapEntry} {clock : Nat} {a : κ} (hinj : ∀ a c : κ, enc a = enc c → a = c) (hm : w.heap[b]? = some (.map es clock)) (h1 : ∀ x ∈ es.toList, ∃ a, x.key = enc a) (h2 : (es.toList.map (·.key)).Nodup)
    (h3 : ∀ a v, g a = some v ↔ ∃ x ∈ es.toList, x.key = enc a ∧ x.val = v) (h4 : ∀ x ∈ es.toList, x.born < clock) (h5 : (es.toList.map (·.born)).Nodup) (hno : ∀ e ∈ es.toList, e.key ≠ enc a) (v : Value) :
    OwnsV enc (setBlock w b (.map (es.push ⟨enc a, v, clock⟩) (clock + 1))) b (upd g a v) := by
  refine ⟨_, _, heap_setBlock_same hm _, ?_, ?_, ?_, ?_, ?_⟩
  · intro x hx
    rw [Array.toList_push] at hx
    rcases List.mem_append.1 hx with hx | hx
    · exact h1 x hx
    · rw [List.mem_singleton.1 hx]; exact ⟨a, rfl⟩
  · rw [Array.toList_push, List.map_append]
    refine List.nodup_append.2 ⟨h2, by simp, fun q hq c hc e1 => ?_⟩
    simp only [List.map_cons, List.map_nil, List.mem_singleton] at hc
    obtain ⟨x, hx, rfl⟩ := List.mem_map.1 hq
    exact hno x hx (e1.trans hc)
  · intro c u
    unfold upd
    rw [Array.toList_push]
    by_cases hc : c = a
    · rw [if_pos hc]
      constructor
      · intro e; injection e with e; exact ⟨⟨enc a, v, clock⟩, by simp, by rw [hc], e⟩
      · rintro ⟨x, hx, hxk, rfl⟩
        rcases List.mem_append.1 hx with hx | hx
        · exact absurd (hxk.trans (by rw [hc])) (hno x hx)
        · rw [List.mem_singleton.1 hx]
    · rw [if_neg hc, h3 c u]
      constructor
      · rintro ⟨x, hx, hxk, hv⟩; exact ⟨x, List.mem_append_left _ hx, hxk, hv⟩
      · rintro ⟨x, hx, hxk, hv⟩
        rcases List.mem_append.1 hx with hx | hx
        · exact ⟨x, hx, hxk, hv⟩
        · rw [List.mem_singleton.1 hx] at hxk; exact absurd (hinj _ _ hxk).symm hc
  · exact push_lt h4 _ _
  · exact push_nd h4 h5 _ _
/-- m[a] = v. -/
theorem update_run (K : Keyed P k) (ht : P.underlying t = some (.map k E)) (hinj : ∀ a c : κ, enc a = enc c → a = c) (hkey : ∀ a : κ, ∃ l, keyOf P k (enc a) = some l)
    (h : OwnsV enc w b g) (a : κ) (v : Value) : ∃ w1, (Instr.mapUpdate t (.map (some b)) (enc a) v).run P w = .ok () w1 ∧ OwnsV enc w1 b (upd g a v) ∧ w.grownBy w1 (some b) := by
  obtain ⟨es, clock, hm, h1, h2, h3, h4, h5⟩ := h
  obtain ⟨kl, hkl⟩ := hkey a
  rcases find_key (w := w) K hkey h1 a with ⟨hf, hno⟩ | ⟨j, e0, hf, hj, he⟩
  · refine ⟨setBlock w b (.map (es.push ⟨enc a, v, clock⟩) (clock + 1)), ?_, owns_push hinj hm h1 h2 h3 h4 h5 hno v, grown_block hm⟩
    simp [Instr.mapUpdate, run_underlying ht, MapKept.run_getObj_map hm, K.check w false hkl, hf, MapKept.run_setObj_map _ hm, Result.andThen, setBlock]
  · have hj' : es[j]? = some e0 := by simpa using hj
    have hjl : j < es.toList.length := (List.getElem?_eq_some_iff.1 hj).1
    have htl : (es.modify j (fun e => { e with key := enc a, val := v })).toList = es.toList.set j { e0 with key := enc a, val := v } := by rw [Array.toList_modify, modify_eq_set _ _ _ _ hj]
    have hset : ∀ i x, (es.toList.set j { e0 with key := enc a, val := v })[i]? = some x → (i = j ∧ x = { e0 with key := enc a, val := v }) ∨ (i ≠ j ∧ es.toList[i]? = some x) := by
      intro i x hx
      rw [List.getElem?_set] at hx
      by_cases h : j = i
      · rw [if_pos h, if_pos hjl] at hx
        exact .inl ⟨h.symm, (Option.some.inj hx).symm⟩
      · rw [if_neg h] at hx
        exact .inr ⟨fun e => h e.symm, hx⟩
    have huniq : ∀ i x, es.toList[i]? = some x → x.key = enc a → i = j := by
      intro i x hx hk
      have e1 : (es.toList.map (·.key))[i]? = some (enc a) := by rw [List.getElem?_map, hx]; simp [hk]
      have e2 : (es.toList.map (·.key))[j]? = some (enc a) := by rw [List.getElem?_map, hj]; simp [he]
      exact (List.getElem?_inj (by rw [List.length_map]; exact (List.getElem?_eq_some_iff.1 hx).1) h2).1 (e1.trans e2.symm)
    refine ⟨setBlock w b (.map (es.modify j (fun e => { e with key := enc a, val := v })) clock), ?_, ⟨_, _, heap_setBlock_same hm _, ?_, ?_, ?_, ?_, ?_⟩, grown_block hm⟩
    · simp [Instr.mapUpdate, run_underlying ht, MapKept.run_getObj_map hm, K.check w false hkl, hf, hj', he, K.stays w hkl, MapKept.run_setObj_map _ hm, Result.andThen, setBlock]
    · rw [htl]
      intro x hx
      obtain ⟨i, hi⟩ := List.getElem?_of_mem hx
      rcases hset i x hi with ⟨_, rfl⟩ | ⟨_, h⟩
      · exact ⟨a, rfl⟩
      · exact h1 x (List.mem_of_getElem? h)
    · rw [htl]
      have : (es.toList.set j { e0 with key := enc a, val := v }).map (·.key) = es.toList.map (·.key) := by
        apply List.ext_getElem?
        intro i
        rw [List.getElem?_map, List.getElem?_map, List.getElem?_set]
        by_cases h : j = i
        · subst h
          rw [if_pos rfl, if_pos hjl, hj]
          simp [he]
        · rw [if_neg h]
      rw [this]
      exact h2
    · intro c u
      unfold upd
      rw [htl]
      by_cases hc : c = a
      · rw [if_pos hc]
        constructor
        · intro e
          injection e with e
          refine ⟨{ e0 with key := enc a, val := v }, ?_, by rw [hc], e⟩
          exact List.mem_of_getElem? (i := j) (by rw [List.getElem?_set, if_pos rfl, if_pos hjl])
        · rintro ⟨x, hx, hxk, rfl⟩
          obtain ⟨i, hi⟩ := List.getElem?_of_mem hx
          rcases hset i x hi with ⟨_, rfl⟩ | ⟨hij, h⟩
          · rfl
          · exact absurd (huniq i x h (hxk.trans (by rw [hc]))) hij
      · rw [if_neg hc, h3 c u]
        constructor
        · rintro ⟨x, hx, hxk, hv⟩
          obtain ⟨i, hi⟩ := List.getElem?_of_mem hx
          refine ⟨x, List.mem_of_getElem? (i := i) ?_, hxk, hv⟩
          rw [List.getElem?_set]
          by_cases h : j = i
          · subst h
            rw [hj] at hi
            injection hi with hi
            rw [← hi, he] at hxk
            exact absurd (hinj _ _ hxk).symm hc
          · rw [if_neg h]; exact hi
        · rintro ⟨x, hx, hxk, hv⟩
          obtain ⟨i, hi⟩ := List.getElem?_of_mem hx
          rcases hset i x hi with ⟨_, rfl⟩ | ⟨hij, h⟩
          · exact absurd (hinj _ _ hxk).symm hc
          · exact ⟨x, List.mem_of_getElem? h, hxk, hv⟩
    · rw [htl]
      intro x hx
      obtain ⟨i, hi⟩ := List.getElem?_of_mem hx
      rcases hset i x hi with ⟨_, rfl⟩ | ⟨_, h⟩
      · exact h4 e0 (List.mem_of_getElem? hj)
      · exact h4 x (List.mem_of_getElem? h)
    · rw [htl]
      have : (es.toList.set j { e0 with key := enc a, val := v }).map (·.born) = es.toList.map (·.born) := by
        apply List.ext_getElem?
        intro i
        rw [List.getElem?_map, List.getElem?_map, List.getElem?_set]
        by_cases h : j = i
        · subst h
          rw [if_pos rfl, if_pos hjl, hj]
          simp
        · rw [if_neg h]
      rw [this]
      exact h5
/-- The way back from an entry to the store behind. -/
def BackV (P : Program) (enc : κ → Value) (t : TypeId) (b : Nat) (g : κ → Option Value) (a : κ) (w1 : World) (st : Nat) : Prop :=
  ∀ (w2 : World) (v : Value), w2.heap[b]? = w1.heap[b]? → ∃ w3, (Instr.entryStore t (.map (some b)) (goInt st) v).run P w2 = .ok () w3 ∧ OwnsV enc w3 b (upd g a v) ∧ w2.grownBy w3 (some b)
theorem store_back {es : Array MapEntry} {clock j : Nat} {e1 : MapEntry} {a : κ} (hinj : ∀ a c : κ, enc a = enc c → a = c) {w1 : World} (hm : w1.heap[b]? = some (.map es clock)) (h1 : ∀ x ∈ es.toList, ∃ a, x.key = enc a) (h2 : (es.toList.map (·.key)).Nodup) {g : κ → Option Value}
    (h3 : ∀ c v, c ≠ a → (g c = some v ↔ ∃ x ∈ es.toList, x.key = enc c ∧ x.val = v)) (h4 : ∀ x ∈ es.toList, x.born < clock) (h5 : (es.toList.map (·.born)).Nodup) (hj : es.toList[j]? = some e1) (he : e1.key = enc a) : BackV P enc t b g a w1 e1.born := by
  intro w2 v hb
  have hw2 : w2.heap[b]? = some (.map es clock) := hb.trans hm
  have hi : es.findIdx? (fun e => ((e.born : Nat) : Int) == ((e1.born : Nat) : Int)) = some j := by
    rw [Go.WideElems.findIdx_arr]
    exact Go.WideElems.findIdx_born h5 hj
  have htl : (es.modify j (fun e => { e with val := v })).toList = es.toList.set j { e1 with val := v } := by rw [Array.toList_modify, modify_eq_set _ _ _ _ hj]
  have hjl : j < es.toList.length := (List.getElem?_eq_some_iff.1 hj).1
  have hset : ∀ i x, (es.toList.set j { e1 with val := v })[i]? = some x → (i = j ∧ x = { e1 with val := v }) ∨ (i ≠ j ∧ es.toList[i]? = some x) := by
    intro i x hx
    rw [List.getElem?_set] at hx
    by_cases h : j = i
    · rw [if_pos h, if_pos hjl] at hx
      exact .inl ⟨h.symm, (Option.some.inj hx).symm⟩
    · rw [if_neg h] at hx
      exact .inr ⟨fun e => h e.symm, hx⟩
  have hmap : ∀ {β : Type} (f : MapEntry → β), f { e1 with val := v } = f e1 → (es.toList.set j { e1 with val := v }).map f = es.toList.map f := by
    intro β f hf
    apply List.ext_getElem?
    intro i
    rw [List.getElem?_map, List.getElem?_map, List.getElem?_set]
    by_cases h : j = i
    · subst h
      rw [if_pos rfl, if_pos hjl, hj]
      simp [hf]
    · rw [if_neg h]
  have huniq : ∀ i x, es.toList[i]? = some x → x.key = enc a → i = j := by
    intro i x hx hk
    have q1 : (es.toList.map (·.key))[i]? = some (enc a) := by rw [List.getElem?_map, hx]; simp [hk]
    have q2 : (es.toList.map (·.key))[j]? = some (enc a) := by rw [List.getElem?_map, hj]; simp [he]
    exact (List.getElem?_inj (by rw [List.length_map]; exact (List.getElem?_eq_some_iff.1 hx).1) h2).1 (q1.trans q2.symm)
  refine ⟨setBlock w2 b (.map (es.modify j (fun e => { e with val := v })) clock), ?_, ⟨_, _, heap_setBlock_same hw2 _, ?_, ?_, ?_, ?_, ?_⟩, grown_block hw2⟩
  · simp [Instr.entryStore, MapKept.run_getObj_map hw2, asInt, asIntOf, goInt, hi, MapKept.run_setObj_map _ hw2, Result.andThen, setBlock]
  · rw [htl]
    intro x hx
    obtain ⟨i, hi⟩ := List.getElem?_of_mem hx
    rcases hset i x hi with ⟨_, rfl⟩ | ⟨_, h⟩
    · exact ⟨a, he⟩
    · exact h1 x (List.mem_of_getElem? h)
  · rw [htl, hmap _ rfl]; exact h2
  · intro c u
    unfold upd
    rw [htl]
    by_cases hc : c = a
    · rw [if_pos hc]
      constructor
      · intro e
        injection e with e
        exact ⟨{ e1 with val := v }, List.mem_of_getElem? (i := j) (by rw [List.getElem?_set, if_pos rfl, if_pos hjl]), by rw [hc]; exact he, e⟩
      · rintro ⟨x, hx, hxk, rfl⟩
        obtain ⟨i, hi⟩ := List.getElem?_of_mem hx
        rcases hset i x hi with ⟨_, rfl⟩ | ⟨hij, h⟩
        · rfl
        · exact absurd (huniq i x h (hxk.trans (by rw [hc]))) hij
    · rw [if_neg hc, h3 c u hc]
      constructor
      · rintro ⟨x, hx, hxk, hv⟩
        obtain ⟨i, hi⟩ := List.getElem?_of_mem hx
        refine ⟨x, List.mem_of_getElem? (i := i) ?_, hxk, hv⟩
        rw [List.getElem?_set]
        by_cases h : j = i
        · subst h
          rw [hj] at hi
          injection hi with hi
          rw [← hi, he] at hxk
          exact absurd (hinj _ _ hxk).symm hc
        · rw [if_neg h]; exact hi
      · rintro ⟨x, hx, hxk, hv⟩
        obtain ⟨i, hi⟩ := List.getElem?_of_mem hx
        rcases hset i x hi with ⟨_, rfl⟩ | ⟨hij, h⟩
        · exact absurd (hinj _ _ (he.symm.trans hxk)).symm hc
        · exact ⟨x, List.mem_of_getElem? h, hxk, hv⟩
  · rw [htl]
    intro x hx
    obtain ⟨i, hi⟩ := List.getElem?_of_mem hx
    rcases hset i x hi with ⟨_, rfl⟩ | ⟨_, h⟩
    · exact h4 e1 (List.mem_of_getElem? hj)
    · exact h4 x (List.mem_of_getElem? h)
  · rw [htl, hmap _ rfl]; exact h5
/-- m[a] op= ..: the entry, and the store behind. -/
theorem entry_run (K : Keyed P k) (ht : P.underlying t = some (.map k E)) {z : Value} (hz : ∀ u : World, (zeroValue E).run P u = .ok z u) (hinj : ∀ a c : κ, enc a = enc c → a = c) (hkey : ∀ a : κ, ∃ l, keyOf P k (enc a) = some l)
    (h : OwnsV enc w b g) (a : κ) : ∃ (v0 : Value) (st : Nat) (w1 : World) (g1 : κ → Option Value), (Instr.mapEntry t (.map (some b)) (enc a)).run P w = .ok (.tuple #[v0, goInt st]) w1 ∧ w.grownBy w1 (some b) ∧ BackV P enc t b g a w1 st ∧ OwnsV enc w1 b g1 ∧ ∀ c, (g1 c).getD z = (g c).getD z := by
  obtain ⟨es, clock, hm, h1, h2, h3, h4, h5⟩ := h
  obtain ⟨kl, hkl⟩ := hkey a
  rcases find_key (w := w) K hkey h1 a with ⟨hf, hno⟩ | ⟨j, e0, hf, hj, he⟩
  · have hga : g a = none := by
      cases hga : g a with
      | none => rfl
      | some v => obtain ⟨x, hx, hxk, _⟩ := (h3 a v).1 hga; exact absurd hxk (hno x hx)
    refine ⟨z, clock, setBlock w b (.map (es.push ⟨enc a, z, clock⟩) (clock + 1)), upd g a z, ?_, grown_block hm, ?_, owns_push hinj hm h1 h2 h3 h4 h5 hno z, fun c => by unfold upd; by_cases q : c = a; (rw [if_pos q, q, hga]; rfl); rw [if_neg q]⟩
    · simp [Instr.mapEntry, run_underlying ht, MapKept.run_getObj_map hm, K.check w false hkl, hf, hz, MapKept.run_setObj_map _ hm, Result.andThen, setBlock]
    · refine store_back (e1 := ⟨enc a, z, clock⟩) (j := es.toList.length) hinj (heap_setBlock_same hm _) ?_ ?_ ?_ (push_lt h4 _ _) (push_nd h4 h5 _ _) (by rw [Array.toList_push, List.getElem?_append_right (Nat.le_refl _)]; simp) rfl
      · intro x hx
        rw [Array.toList_push] at hx
        rcases List.mem_append.1 hx with hx | hx
        · exact h1 x hx
        · rw [List.mem_singleton.1 hx]; exact ⟨a, rfl⟩
      · rw [Array.toList_push, List.map_append]
        refine List.nodup_append.2 ⟨h2, by simp, fun q hq c hc e1 => ?_⟩
        simp only [List.map_cons, List.map_nil, List.mem_singleton] at hc
        obtain ⟨x, hx, rfl⟩ := List.mem_map.1 hq
        exact hno x hx (e1.trans hc)
      · intro c u hc
        rw [h3 c u, Array.toList_push]
        constructor
        · rintro ⟨x, hx, hxk, hv⟩; exact ⟨x, List.mem_append_left _ hx, hxk, hv⟩
        · rintro ⟨x, hx, hxk, hv⟩
          rcases List.mem_append.1 hx with hx | hx
          · exact ⟨x, hx, hxk, hv⟩
          · rw [List.mem_singleton.1 hx] at hxk; exact absurd (hinj _ _ hxk).symm hc
  · have hj' : es[j]? = some e0 := by simpa using hj
    have hsame : es.modify j (fun e => { e with key := enc a }) = es := by
      apply Array.ext'
      rw [Array.toList_modify, modify_eq_set _ _ _ _ hj]
      have : ({ e0 with key := enc a } : MapEntry) = e0 := by rw [← he]
      rw [this]
      exact Go.WideElems.set_self _ _ _ hj
    refine ⟨e0.val, e0.born, setBlock w b (.map es clock), g, ?_, grown_block hm, ?_, ⟨es, clock, heap_setBlock_same hm _, h1, h2, h3, h4, h5⟩, fun c => rfl⟩
    · simp [Instr.mapEntry, run_underlying ht, MapKept.run_getObj_map hm, K.check w false hkl, hf, hj', he, K.stays w hkl, hsame, MapKept.run_setObj_map _ hm, Result.andThen, setBlock]
    · exact store_back hinj (heap_setBlock_same hm _) h1 h2 (fun c u _ => h3 c u) h4 h5 hj he
end
end
section
variable {P : Program} {κ : Type} [DecidableEq κ] {enc : κ → Value} {k : TypeId} {ops : Array Oper} {rest : List Oper} {o : Oper} {a : Act} {Q : Exit → Act → World → Prop}
theorem wpList_look {W : World} (hgd : o.guard = none) (m x : Operand) (t : TypeId) (ok : Bool) (ho : o.op = .lookup t m x ok) {E : TypeId} {b : Nat} {g : κ → Option Value} (K : Go.Maps.Keyed P k) (ht : P.underlying t = some (.map k E)) {z : Value} (hz : ∀ u : World, (zeroValue E).run P u = .ok z u)
    (hinj : ∀ a c : κ, enc a = enc c → a = c) (hkey : ∀ a : κ, ∃ l, keyOf P k (enc a) = some l) (h : OwnsV enc W b g) (c : κ) (hm : a.eval m = .map (some b)) (hx : a.eval x = enc c)
    (hK : wpList P ops Q rest (a.put o.dst (if ok then .tuple #[(g c).getD z, .bool (g c).isSome] else (g c).getD z)) W) :
    wpList P ops Q (o :: rest) a W := by
  refine wpList_plain hgd fun K' hK' => ?_
  have hrun := lookup_run K ht hz hinj hkey h c ok
  generalize (if ok then Value.tuple #[(g c).getD z, .bool (g c).isSome] else (g c).getD z) = r at hrun hK
  unfold Oper.wp
  simp [execOp, ho, hm, hx, hrun, Result.andThen]
  exact hK' _ _ hK
theorem wpList_ent {W : World} (hgd : o.guard = none) (m x : Operand) (t : TypeId) (ho : o.op = .mapEntry t m x) {E : TypeId} {b : Nat} {g : κ → Option Value} (K : Go.Maps.Keyed P k) (ht : P.underlying t = some (.map k E)) {z : Value} (hz : ∀ u : World, (zeroValue E).run P u = .ok z u)
    (hinj : ∀ a c : κ, enc a = enc c → a = c) (hkey : ∀ a : κ, ∃ l, keyOf P k (enc a) = some l) (h : OwnsV enc W b g) (c : κ) (hm : a.eval m = .map (some b)) (hx : a.eval x = enc c)
    (hK : ∀ (v0 : Value) (st : Nat) (w1 : World) (g1 : κ → Option Value), W.grownBy w1 (some b) → BackV P enc t b g c w1 st → OwnsV enc w1 b g1 → (∀ c, (g1 c).getD z = (g c).getD z) → wpList P ops Q rest (a.put o.dst (.tuple #[v0, .int .i64 (st : Int)])) w1) :
    wpList P ops Q (o :: rest) a W := by
  refine wpList_plain hgd fun K' hK' => ?_
  obtain ⟨v0, st, w1, g1, hrun, hg, hback, hown, hsame⟩ := entry_run K ht hz hinj hkey h c
  unfold Oper.wp
  simp [execOp, ho, hm, hx, hrun, Result.andThen]
  exact hK' _ _ (hK v0 st w1 g1 hg hback hown hsame)
theorem wpList_sto {W : World} (hgd : o.guard = none) (m x v : Operand) (t : TypeId) (ho : o.op = .entryStore t m x v) {b : Nat} {g : κ → Option Value} {c : κ} {w1 : World} {u : Value} {st : Nat}
    (hback : BackV P enc t b g c w1 st) (hm : a.eval m = .map (some b)) (hx : a.eval x = .int .i64 (st : Int)) (hv : a.eval v = u) (hb : W.heap[b]? = w1.heap[b]?)
    (hK : ∀ w3, OwnsV enc w3 b (upd g c u) → W.grownBy w3 (some b) → wpList P ops Q rest (a.put o.dst undef) w3) : wpList P ops Q (o :: rest) a W := by
  refine wpList_plain hgd fun K' hK' => ?_
  obtain ⟨w3, hrun, h1, h2⟩ := hback W u hb
  rw [show goInt (st : Int) = .int .i64 (st : Int) from rfl] at hrun
  unfold Oper.wp
  simp [execOp, ho, hm, hx, hv, hrun, Result.andThen]
  exact hK' _ _ (hK w3 h1 h2)
theorem wpList_upd {W : World} (hgd : o.guard = none) (m x v : Operand) (t : TypeId) (ho : o.op = .mapUpdate t m x v) {E : TypeId} {b : Nat} {g : κ → Option Value} (K : Go.Maps.Keyed P k) (ht : P.underlying t = some (.map k E))
    (hinj : ∀ a c : κ, enc a = enc c → a = c) (hkey : ∀ a : κ, ∃ l, keyOf P k (enc a) = some l) (h : OwnsV enc W b g) (c : κ) (u : Value) (hm : a.eval m = .map (some b)) (hx : a.eval x = enc c) (hv : a.eval v = u)
    (hK : ∀ w1, OwnsV enc w1 b (upd g c u) → W.grownBy w1 (some b) → wpList P ops Q rest (a.put o.dst undef) w1) : wpList P ops Q (o :: rest) a W := by
  refine wpList_plain hgd fun K' hK' => ?_
  obtain ⟨w1, hrun, h1, h2⟩ := update_run K ht hinj hkey h c u
  unfold Oper.wp
  simp [execOp, ho, hm, hx, hv, hrun, Result.andThen]
  exact hK' _ _ (hK w1 h1 h2)
end
end Go.Proofs.Ytlfcepdaicngjaa.MapV

/- The keys of a code's map: word{length, number}. -/
namespace Go.Proofs.Ytlfcepdaicngjaa.Pk
set_option linter.unusedVariables false
set_option linter.unusedSimpArgs false
open Go Go.RowKit Go.Proofs.Ytlfcepdaicngjaa.MapV Go.Proofs.YtlfcepdaicngjaaW.PrintWords Go.Proofs.YtlfcepdaicngjaaW.PrintLast Go.Proofs.YtlfcepdaicngjaaW.PrintMore
abbrev Wd := UInt8 × UInt32
def encW (t : Wd) : Value := .agg #[.int .u8 (t.1.toNat : Int), .int .u32 (t.2.toNat : Int)]
theorem encW_inj : ∀ a c : Wd, encW a = encW c → a = c := by
  intro a c h
  unfold encW at h
  injection h with h
  injection h with h
  simp only [List.cons.injEq, Value.int.injEq, true_and, Int.natCast_inj, and_true] at h
  obtain ⟨h1, h2⟩ := h
  exact Prod.ext (UInt8.toNat_inj.1 h1) (UInt32.toNat_inj.1 h2)
theorem laidOut : laidOutB Try.prog = true := by kernel_rfl
theorem rowW : (68 : TypeId) < Try.prog.types.size := of_decide_eq_true (by kernel_rfl)
theorem wideW : (match Try.prog.underlying 68 with | some (.array _ _) | some (.struct _) => true | _ => false) = true := by rw [Try.underlying68]
theorem keyedW : Go.Maps.Keyed Try.prog 68 := Go.Maps.Keyed.of_law (deep_law_laid laidOut (m := 2) (by omega) rowW (by kernel_rfl) wideW)
theorem cellsW : Try.prog.cellsOf 68 = 2 := by kernel_rfl
theorem cells5 : Try.prog.cellsOf 5 = 1 := by kernel_rfl
theorem cells60 : Try.prog.cellsOf 60 = 1 := by kernel_rfl
theorem keyTW : Try.prog.keyType 68 = true := by kernel_rfl
theorem zeroI (u : World) : (zeroValue 3).run Try.prog u = .ok (.int .i64 0) u := by kernel_rfl
theorem wf_b8 (a : UInt8) : (Lit.int .u8 (a.toNat : Int)).wf = true := by
  have := a.toNat_lt
  simp [Lit.wf, IntKind.min, IntKind.max, IntKind.signed, IntKind.bits]
  omega
theorem wf_b32 (a : UInt32) : (Lit.int .u32 (a.toNat : Int)).wf = true := by
  have := a.toNat_lt
  simp [Lit.wf, IntKind.min, IntKind.max, IntKind.signed, IntKind.bits]
  omega
theorem key_okW : ∀ t : Wd, ∃ l, keyOf Try.prog 68 (encW t) = some l := by
  intro t
  obtain ⟨d, hd⟩ : ∃ d, Try.prog.types.size + 1 = d + 2 := ⟨Try.prog.types.size - 1, by have h : (0 : Nat) < Try.prog.types.size := Nat.lt_of_le_of_lt (Nat.zero_le _) rowW; omega⟩
  suffices h : ∃ ls, Try.prog.keyLits (Try.prog.types.size + 1) 68 (encW t).cells.toList = some ls by
    obtain ⟨ls, h⟩ := h
    unfold keyOf
    rw [Try.underlying68]
    simp only [keyTW, Bool.true_and]
    rw [if_pos (by simp [Value.formed, encW, Try.underlying68, cellsW]), h]
    exact ⟨_, rfl⟩
  rw [hd]
  unfold encW
  simp [Program.keyLits, Try.underlying68, cellsW, cells5, cells60, Try.underlying5, Try.underlying60, Value.cells, List.range, List.range.loop, wf_b8, wf_b32]
/-- The key of a length and a number. -/
def wd (x v : Int) : Wd := (UInt8.ofNat x.toNat, UInt32.ofNat v.toNat)
theorem enc_wd (x v : Int) (h0 : 0 ≤ x) (h1 : x < 256) (h2 : 0 ≤ v) (h3 : v < 4294967296) : encW (wd x v) = .agg #[.int .u8 x, .int .u32 v] := by
  unfold encW wd
  have e1 : ((UInt8.ofNat x.toNat).toNat : Int) = x := by rw [UInt8.toNat_ofNat']; omega
  have e2 : ((UInt32.ofNat v.toNat).toNat : Int) = v := by rw [UInt32.toNat_ofNat']; omega
  rw [e1, e2]
end Go.Proofs.Ytlfcepdaicngjaa.Pk

/- prefix.New: a code of lengths: the walk. -/
namespace Go.Proofs.Ytlfcepdaicngjaa.Pk
set_option linter.unusedVariables false
set_option linter.unusedSimpArgs false
open Go Go.RowKit Go.Proofs.Ytlfcepdaicngjaa.P Go.Proofs.Ytlfcepdaicngjaa.MapV Go.Proofs.YtlfcepdaicngjaaW.PrintWords Go.Proofs.YtlfcepdaicngjaaW.PrintLast Go.Proofs.YtlfcepdaicngjaaW.PrintMore
/-- What the map of signs tells of the first j lengths. -/
def signsG (ls ws : List Int) : Nat → (Wd → Option Value)
  | 0 => fun _ => none
  | j + 1 => if ls.getD j 0 > 0 then upd (signsG ls ws j) (wd (ls.getD j 0) (ws.getD j 0)) (.int .i64 j) else signsG ls ws j
/-- The longest of the first j lengths. -/
def mostW (ls : List Int) : Nat → Int
  | 0 => 0
  | j + 1 => if ls.getD j 0 > 0 then max (mostW ls j) (ls.getD j 0) else mostW ls j
/-- A code in memory. -/
def IsCode (w : World) (p : Nat) (ls ws : List Int) : Prop :=
  ∃ A1 c1 A2 c2 b, w.heap[p]? = some (.cells #[.slice A1 ls.length c1, .slice A2 ws.length c2, .map (some b), .int .i64 (mostW ls ls.length)] 66 (0, 0)) ∧ Kd.C (Kd.int .u8) w A1 ls.length ls ∧ Kd.C (Kd.int .u32) w A2 ws.length ws ∧ OwnsV encW w b (signsG ls ws ls.length)
theorem mostW_range (ls : List Int) (h : ∀ x ∈ ls, 0 ≤ x ∧ x ≤ 15) : ∀ j, j ≤ ls.length → 0 ≤ mostW ls j ∧ mostW ls j ≤ 15
  | 0, _ => by simp [mostW]
  | j + 1, hj => by
    have ih := mostW_range ls h j (by omega)
    have hx := h _ (List.getElem_mem (show j < ls.length by omega))
    rw [mostW, List.getD_eq_getElem?_getD, List.getElem?_eq_getElem (show j < ls.length by omega), Option.getD_some]
    split <;> omega
theorem set_tail (a b c x y : Value) (t : Nat) (w : World) (g : Nat) (h : w.heap[g]? = some (.cells #[a, b, c, x] t (0, 0))) : (w.setCell ⟨g, 3, none⟩ y).heap[g]? = some (.cells #[a, b, c, y] t (0, 0)) := by
  have := blk_set h 3 y
  rw [this]; rfl
attribute [local go_sem] max2_int min2_int max_two min_two
set_option maxHeartbeats 8000000 in
set_option maxRecDepth 100000 in
theorem new_ok (A0 : Option Addr) (c0 : Nat) (l0 ws : List Int) (n : Int) (o : Bool) (w : World) (hr0 : Kd.C (Kd.int .u8) w A0 l0.length l0) (hc0 : l0.length ≤ c0)
    (hW : prefix_Words.f l0 = some (ws, 0)) (hF : prefix_Fill.f 5000 l0 = some (n, 0)) (hlen : l0.length ≤ 4096) (hws : ws.length = l0.length) (hls : ∀ x ∈ l0, 0 ≤ x ∧ x ≤ 15) (hwr : ∀ v ∈ ws, 0 ≤ v ∧ v < 4294967296)
    (hcond : 32768 ≤ n ∨ n < 32768 ∧ o = true ∧ prefix_few.f 5000 l0 = some true) :
    Calls Try.prog 8 #[.slice A0 l0.length c0, .bool o] w fun e w' => ∃ p, w.heap.size ≤ p ∧ e = .returned (.tuple #[.pointer (some ⟨p, 0, none⟩), .int .i64 0]) ∧ IsCode w' p l0 ws ∧ Below w.heap.size w w' := by
  have HW := Aside0.mk hW
  have HF := Aside0.mk hF
  have HR := Aside0.mk hr0
  have HC := Aside0.mk hc0
  have HLS := Aside0.mk hls
  have HWR := Aside0.mk hwr
  have HWS := Aside0.mk hws
  have HLEN := Aside0.mk hlen
  clear hW hF hr0 hc0 hls hwr hws hlen
  rcases hcond with hA | ⟨hA, rfl, hfew⟩
  case' inl =>
    have hb1 : decide (n < 32768) = false := decide_eq_false (by omega)
    clear hA
    go_enter Try.func8, Try.ntmps8
    go_upto_region 7 with (first
      | (go_at_call 21; refine (prefix_Words.calls _ _ l0 _ _ _ HR.out HC.out HW.out).mono ?_; rintro e w1 ⟨vw, rfl, hrw, hbw⟩; obtain ⟨A2, c2, rfl, _, hrw⟩ := Kd.R_reads hrw; have HRW := Aside0.mk hrw; have HB := Aside0.mk hbw; clear hrw hbw)
      | (go_at_call 22; refine (prefix_Fill.calls 5000 _ _ l0 _ _ _ (Kd.C_below HR.out HB.out) HC.out HF.out).mono ?_; rintro e w2 ⟨rfl, ⟨nd, rfl⟩⟩))
  case' inr =>
    have hb1 : decide (n < 32768) = true := decide_eq_true hA
    have HFEW := Aside0.mk hfew
    clear hA hfew
    go_enter Try.func8, Try.ntmps8
    go_upto_region 7 with (first
      | (go_at_call 21; refine (prefix_Words.calls _ _ l0 _ _ _ HR.out HC.out HW.out).mono ?_; rintro e w1 ⟨vw, rfl, hrw, hbw⟩; obtain ⟨A2, c2, rfl, _, hrw⟩ := Kd.R_reads hrw; have HRW := Aside0.mk hrw; have HB := Aside0.mk hbw; clear hrw hbw)
      | (go_at_call 22; refine (prefix_Fill.calls 5000 _ _ l0 _ _ _ (Kd.C_below HR.out HB.out) HC.out HF.out).mono ?_; rintro e w2 ⟨rfl, ⟨nd0, rfl⟩⟩)
      | (go_at_call 23; refine (prefix_few.calls 5000 _ _ l0 _ _ (Kd.C_below (Kd.C_below HR.out HB.out) (pw_below_drewN (Below.refl _ _) _)) HC.out HFEW.out).mono ?_; rintro e w2 ⟨rfl, ⟨nd1, rfl⟩⟩))
    obtain ⟨nd, hnd⟩ : ∃ nd, nd0 + nd1 = nd := ⟨_, rfl⟩
    rw [hnd]
    clear hnd
  all_goals (
    have hmm := @run_makeMap Try.prog
    have hclone : slices_Clone_uint8_uint8.f l0 = some l0 := by unfold slices_Clone_uint8_uint8.f; rw [if_pos (by have := HLEN.out; omega)]
    have HCL := Aside0.mk hclone
    clear hclone
    go_upto_region 8 with (go_at_call 24; refine (slices_Clone_uint8_uint8.calls _ _ l0 _ _ (Kd.C_below (Kd.C_below HR.out HB.out) (pw_below_drewN (Below.refl _ _) _)) HC.out HCL.out).mono ?_; rintro e w3 ⟨vc, rfl, hrc, hbc⟩; obtain ⟨A1, c1, rfl, _, hrc⟩ := Kd.R_reads hrc; have HRC := Aside0.mk hrc; have HBC := Aside0.mk hbc; clear hrc hbc)
    clear hmm
    have HS3 := Aside0.mk (below_step (pw_below_drewN HB.out nd) HBC.out)
    have HA1 := Aside0.mk HRC.out
    have HA2 := Aside0.mk (Kd.C_below (Kd.C_drewN HRW.out nd) HBC.out)
    have HM := Aside0.mk (OwnsV.below (MapV.made (enc := encW) w3) (below_alloc (Below.refl (w3.alloc (.map #[] 0)).heap.size (w3.alloc (.map #[] 0))) (.cells #[.slice A1 l0.length c1, .slice A2 ws.length c2, .map (some w3.heap.size), .int .i64 0] 66)))
    have HP := Aside0.mk (heap_alloc_new (w3.alloc (.map #[] 0)) (.cells #[.slice A1 l0.length c1, .slice A2 ws.length c2, .map (some w3.heap.size), .int .i64 0] 66))
    have HB3 := Aside0.mk (below_alloc (below_alloc (Below.refl w3.heap.size w3) (.map #[] 0)) (.cells #[.slice A1 l0.length c1, .slice A2 ws.length c2, .map (some w3.heap.size), .int .i64 0] 66))
    have hs1 : (w3.alloc (.map #[] 0)).heap.size = w3.heap.size + 1 := by simp
    rw [hs1] at HP
    generalize (w3.alloc (.map #[] 0)).alloc (.cells #[.slice A1 l0.length c1, .slice A2 ws.length c2, .map (some w3.heap.size), .int .i64 0] 66) = wl at HM HP HB3 ⊢
    clear hs1
    obtain ⟨gp, hgp⟩ : ∃ g, w3.heap.size + 1 = g := ⟨_, rfl⟩
    rw [hgp] at HP ⊢
    have hle3 : w.heap.size ≤ w3.heap.size := HS3.out.size
    have HG := Aside0.mk (show gp = w3.heap.size + 1 ∧ w.heap.size ≤ w3.heap.size from ⟨hgp.symm, hle3⟩)
    clear hgp hle3 HRW HRC HBC HB HCL
    have hlen := HLEN.out
    have hwl := HWS.out
    go_wp2
    go_loopw [44] (fun v44 wr => ∃ j : Nat, v44 = .int .i64 j ∧ j ≤ l0.length ∧ Aside0 (OwnsV encW wr w3.heap.size (signsG l0 ws j)) ∧ Aside0 (wr.heap[gp]? = some (.cells #[.slice A1 l0.length c1, .slice A2 ws.length c2, .map (some w3.heap.size), .int .i64 (mostW l0 j)] 66 (0, 0))) ∧ Aside0 (Below w3.heap.size w3 wr))
      (fun v _ => l0.length - (intOf v).toNat)
    case atStart => exact ⟨0, rfl, by omega, HM, HP, HB3⟩
    case round =>
      clear HM HP HB3
      obtain ⟨j, rfl, hj, HM, HP, HB3⟩ := hrel
      by_cases hlt : j < l0.length
      · have hd : decide (j < l0.length) = true := decide_eq_true hlt
        have hd2 : decide (j < ws.length) = true := decide_eq_true (by omega)
        obtain ⟨ad, hA, hx⟩ := Kd.at_int HR.out (j : Int) (by omega) (by omega)
        cases hA
        replace hx := ((below_step HS3.out HB3.out).cell (World.block_lt_of_cell? w _ hx)).trans hx
        have hg : rd l0 (j : Int) = l0[j] := by unfold rd; rw [List.getD_eq_getElem?_getD, Int.toNat_natCast, List.getElem?_eq_getElem hlt]; rfl
        rw [hg] at hx
        simp only [Int.toNat_natCast] at hx
        obtain ⟨ad2, hA2, hy⟩ := Kd.at_int HA2.out (j : Int) (by omega) (by omega)
        cases hA2
        replace hy := (HB3.out.cell (World.block_lt_of_cell? w3 _ hy)).trans hy
        have hg2 : rd ws (j : Int) = ws[j]'(by omega) := by unfold rd; rw [List.getD_eq_getElem?_getD, Int.toNat_natCast, List.getElem?_eq_getElem (by omega)]; rfl
        rw [hg2] at hy
        simp only [Int.toNat_natCast] at hy
        have hr := HLS.out _ (List.getElem_mem hlt)
        have hr2 := HWR.out _ (List.getElem_mem (show j < ws.length by omega))
        have hsn : signsG l0 ws (j + 1) = if l0[j] > 0 then upd (signsG l0 ws j) (wd l0[j] (ws[j]'(by omega))) (.int .i64 j) else signsG l0 ws j := by
          rw [signsG, List.getD_eq_getElem?_getD, List.getElem?_eq_getElem hlt, Option.getD_some, List.getD_eq_getElem?_getD, List.getElem?_eq_getElem (by omega), Option.getD_some]
        have hmn : mostW l0 (j + 1) = if l0[j] > 0 then max (mostW l0 j) l0[j] else mostW l0 j := by
          rw [mostW, List.getD_eq_getElem?_getD, List.getElem?_eq_getElem hlt, Option.getD_some]
        have hmr := mostW_range l0 HLS.out j hj
        obtain ⟨x, hxx⟩ : ∃ x, l0[j] = x := ⟨_, rfl⟩
        obtain ⟨v, hvv⟩ : ∃ v, ws[j]'(by omega) = v := ⟨_, rfl⟩
        obtain ⟨q, hq⟩ : ∃ q, mostW l0 j = q := ⟨_, rfl⟩
        rw [hxx] at hx hr hsn hmn
        rw [hvv] at hy hr2 hsn
        rw [hq] at hmn hmr HP
        have HSN := Aside0.mk hsn
        have HMN := Aside0.mk hmn
        clear hsn hmn hg hg2 hxx hvv hq
        by_cases hz : x > 0
        · have hzb : decide (0 < x) = true := decide_eq_true hz
          obtain ⟨w4, hrun, hm4, hg4⟩ := update_run (t := 64) keyedW Try.underlying64 encW_inj key_okW (HM.out.below (below_drew (Below.refl _ _)) : OwnsV encW wr.drew w3.heap.size _) (wd x v) (.int .i64 j)
          rw [enc_wd x v (by omega) (by omega) (by omega) (by omega)] at hrun
          have hc2 := blk_cell HP.out 2
          simp only [List.getElem?_toArray, List.getElem?_cons_zero, List.getElem?_cons_succ] at hc2
          have HM4 := Aside0.mk hm4
          have HP4 : Aside0 (w4.heap[gp]? = some (.cells #[.slice A1 l0.length c1, .slice (some ad2) ws.length c2, .map (some w3.heap.size), .int .i64 q] 66 (0, 0))) := ⟨(hg4.block gp (by have := blk_lt HP.out; show gp < wr.heap.size; omega) (by have := HG.out; simp; omega)).trans HP.out⟩
          have HB4 := Aside0.mk ((below_drew HB3.out).grown hg4 HB3.out.size (by intro k hk; injection hk; omega))
          clear hm4 hg4
          go_upto_region 12 with (fail)
          go_region
          have hc3 := blk_cell HP4.out 3
          simp only [List.getElem?_toArray, List.getElem?_cons_zero, List.getElem?_cons_succ] at hc3
          have hf3 := blk_frozen HP4.out 3
          clear hrun hc2 hx hy
          have hs2 := HSN.out
          have hm2 := HMN.out
          rw [if_pos hz] at hs2 hm2
          have HS2 := Aside0.mk hs2
          have HM2 := Aside0.mk hm2
          clear hs2 hm2 HSN HMN
          go_wp2
          have hg := HG.out
          refine ⟨⟨j + 1, by go_num, by omega, ⟨by rw [HS2.out]; exact HM4.out.move (Below.heap_setCell w4 _ _ _ (by show w3.heap.size ≠ gp; omega))⟩, ⟨by rw [HM2.out, show max q x = (if q < x then x else q) by split <;> omega]; exact set_tail _ _ _ _ _ _ _ _ HP4.out⟩, ⟨below_set HB4.out (by omega)⟩⟩, by simp [intOf]; omega⟩
        · obtain rfl : x = 0 := by omega
          have hs2 := HSN.out
          have hm2 := HMN.out
          rw [if_neg (by omega)] at hs2 hm2
          have HS2 := Aside0.mk hs2
          have HM2 := Aside0.mk hm2
          clear hs2 hm2 HSN HMN
          go_wp2
          go_roundw
          case rel => exact ⟨j + 1, by go_num, by omega, by rw [HS2.out]; exact HM, by rw [HM2.out]; exact HP, HB3⟩
          case measure => simp [intOf]; omega
      · have hd : decide (j < l0.length) = false := decide_eq_false hlt
        obtain rfl : j = l0.length := by omega
        go_wp2
        go_ret2
        have hg := HG.out
        exact ⟨gp, by omega, rfl, ⟨A1, c1, A2, c2, w3.heap.size, HP.out, Kd.C_below HA1.out HB3.out, Kd.C_below HA2.out HB3.out, HM.out⟩, below_step HS3.out HB3.out⟩)
end Go.Proofs.Ytlfcepdaicngjaa.Pk

/- prefix.New where it gives none: the walks. -/
namespace Go.Proofs.Ytlfcepdaicngjaa.Pk
set_option linter.unusedVariables false
set_option linter.unusedSimpArgs false
open Go Go.RowKit Go.Proofs.Ytlfcepdaicngjaa.P Go.Proofs.Ytlfcepdaicngjaa.MapV Go.Proofs.YtlfcepdaicngjaaW.PrintWords Go.Proofs.YtlfcepdaicngjaaW.PrintLast Go.Proofs.YtlfcepdaicngjaaW.PrintMore
set_option maxHeartbeats 8000000 in
set_option maxRecDepth 100000 in
theorem new_bad (A0 : Option Addr) (c0 : Nat) (l0 ws : List Int) (e : Int) (o : Bool) (w : World) (hr0 : Kd.C (Kd.int .u8) w A0 l0.length l0) (hc0 : l0.length ≤ c0)
    (hW : prefix_Words.f l0 = some (ws, e)) (he : e ≠ 0) :
    Calls Try.prog 8 #[.slice A0 l0.length c0, .bool o] w fun x w' => x = .returned (.tuple #[.pointer none, .int .i64 e]) ∧ Below w.heap.size w w' := by
  have HW := Aside0.mk hW
  have HR := Aside0.mk hr0
  have HC := Aside0.mk hc0
  have hb1 : (e != 0) = true := bne_iff_ne.mpr he
  clear hW hr0 hc0 he
  go_enter Try.func8, Try.ntmps8
  go_wp2_with (go_at_call 21; refine (prefix_Words.calls _ _ l0 _ _ _ HR.out HC.out HW.out).mono ?_; rintro e w1 ⟨vw, rfl, hrw, hbw⟩; obtain ⟨A2, c2, rfl, _, hrw⟩ := Kd.R_reads hrw; have HB := Aside0.mk hbw; clear hrw hbw)
  go_ret2
  exact ⟨rfl, HB.out⟩
set_option maxHeartbeats 8000000 in
set_option maxRecDepth 100000 in
theorem new_shut (A0 : Option Addr) (c0 : Nat) (l0 ws : List Int) (n : Int) (o : Bool) (w : World) (hr0 : Kd.C (Kd.int .u8) w A0 l0.length l0) (hc0 : l0.length ≤ c0)
    (hW : prefix_Words.f l0 = some (ws, 0)) (hF : prefix_Fill.f 5000 l0 = some (n, 0)) (hn : n < 32768) (hcond : o = false ∨ o = true ∧ prefix_few.f 5000 l0 = some false) :
    Calls Try.prog 8 #[.slice A0 l0.length c0, .bool o] w fun x w' => x = .returned (.tuple #[.pointer none, .int .i64 10]) ∧ Below w.heap.size w w' := by
  have HW := Aside0.mk hW
  have HF := Aside0.mk hF
  have HR := Aside0.mk hr0
  have HC := Aside0.mk hc0
  have hb1 : decide (n < 32768) = true := decide_eq_true hn
  clear hW hF hr0 hc0 hn
  rcases hcond with rfl | ⟨rfl, hfew⟩
  · go_enter Try.func8, Try.ntmps8
    go_wp2_with (first
      | (go_at_call 21; refine (prefix_Words.calls _ _ l0 _ _ _ HR.out HC.out HW.out).mono ?_; rintro e w1 ⟨vw, rfl, hrw, hbw⟩; obtain ⟨A2, c2, rfl, _, hrw⟩ := Kd.R_reads hrw; have HB := Aside0.mk hbw; clear hrw hbw)
      | (go_at_call 22; refine (prefix_Fill.calls 5000 _ _ l0 _ _ _ (Kd.C_below HR.out HB.out) HC.out HF.out).mono ?_; rintro e w2 ⟨rfl, ⟨nd, rfl⟩⟩))
    go_ret2
    exact ⟨rfl, pw_below_drewN HB.out _⟩
  · have HFEW := Aside0.mk hfew
    clear hfew
    go_enter Try.func8, Try.ntmps8
    go_wp2_with (first
      | (go_at_call 21; refine (prefix_Words.calls _ _ l0 _ _ _ HR.out HC.out HW.out).mono ?_; rintro e w1 ⟨vw, rfl, hrw, hbw⟩; obtain ⟨A2, c2, rfl, _, hrw⟩ := Kd.R_reads hrw; have HB := Aside0.mk hbw; clear hrw hbw)
      | (go_at_call 22; refine (prefix_Fill.calls 5000 _ _ l0 _ _ _ (Kd.C_below HR.out HB.out) HC.out HF.out).mono ?_; rintro e w2 ⟨rfl, ⟨nd0, rfl⟩⟩)
      | (go_at_call 23; refine (prefix_few.calls 5000 _ _ l0 _ _ (Kd.C_below (Kd.C_below HR.out HB.out) (pw_below_drewN (Below.refl _ _) _)) HC.out HFEW.out).mono ?_; rintro e w2 ⟨rfl, ⟨nd1, rfl⟩⟩))
    go_ret2
    exact ⟨rfl, pw_below_drewN HB.out _⟩
end Go.Proofs.Ytlfcepdaicngjaa.Pk

/- The chapter's example: the walk. -/
namespace Go.Proofs.Ytlfcepdaicngjaa.Pk
set_option linter.unusedVariables false
set_option linter.unusedSimpArgs false
open Go Go.RowKit Go.Proofs.Ytlfcepdaicngjaa.P Go.Proofs.Ytlfcepdaicngjaa.MapV Go.Proofs.YtlfcepdaicngjaaW.PrintWords Go.Proofs.YtlfcepdaicngjaaW.PrintLast Go.Proofs.YtlfcepdaicngjaaW.PrintMore
theorem lit_C (W : World) (xs : List Int) (h : xs.length ≤ 9223372036854775807) : Kd.C (Kd.int .u8) (W.alloc (.cells (xs.map (Value.int .u8)).toArray 5)) (some ⟨W.heap.size, 0, none⟩) xs.length xs := by
  have h2 := World.ownsRow_lit (base := W.heap.size) (e := 5) (size := 1) W (xs.map (Value.int .u8)).toArray xs.length (Nat.le_refl _) (by simpa [maxLen] using h) (by simp)
  have hR : (Kd.int .u8).R 5 (W.alloc (.cells (xs.map (Value.int .u8)).toArray 5)) W.heap.size (fun _ => True) (.slice (some ⟨W.heap.size, 0, none⟩) xs.length xs.length) xs := Kd.R_of_own (by simpa [encs] using h2) (fun _ _ => trivial)
  obtain ⟨A, c, he, _, hC⟩ := Kd.R_reads hR
  cases he
  exact hC
theorem fill4 : prefix_Fill.f 5000 [2, 1, 3, 3] = some (32768, 0) := by kernel_rfl
theorem words4 : prefix_Words.f [2, 1, 3, 3] = some ([2, 0, 6, 7], 0) := by kernel_rfl
theorem fill2 : prefix_Fill.f 5000 [1, 1] = some (32768, 0) := by kernel_rfl
theorem words2 : prefix_Words.f [1, 1] = some ([0, 1], 0) := by kernel_rfl
theorem sign_nil (R : Option Addr) (w : World) : Calls Try.prog 11 #[.pointer none, .pointer R] w fun e w' => e = .returned (.tuple #[.int .i64 (-1), .int .i64 1]) ∧ Drawn0 w w' := by
  go_enter Try.func11, Try.ntmps11
  go_wp2
  repeat (go_quiet (fail); try go_wp2)
  first | go_ret | go_end0 | go_ret2
  exact ⟨rfl, ⟨0, rfl⟩⟩
theorem sign_rnil (p : Nat) (w : World) : Calls Try.prog 11 #[.pointer (some ⟨p, 0, none⟩), .pointer none] w fun e w' => e = .returned (.tuple #[.int .i64 (-1), .int .i64 1]) ∧ Drawn0 w w' := by
  go_enter Try.func11, Try.ntmps11
  go_wp2
  repeat (go_quiet (fail); try go_wp2)
  first | go_ret | go_end0 | go_ret2
  exact ⟨rfl, ⟨0, rfl⟩⟩
theorem put_nil (R : Option Addr) (w : World) : Calls Try.prog 13 #[.pointer none, .pointer R, .int .i64 0] w fun e w' => e = .returned (.int .i64 1) ∧ Drawn0 w w' := by
  go_enter Try.func13, Try.ntmps13
  go_wp2
  repeat (go_quiet (fail); try go_wp2)
  first | go_ret | go_end0 | go_ret2
  exact ⟨rfl, ⟨0, rfl⟩⟩
theorem put_wnil (p : Nat) (w : World) : Calls Try.prog 13 #[.pointer (some ⟨p, 0, none⟩), .pointer none, .int .i64 0] w fun e w' => e = .returned (.int .i64 1) ∧ Drawn0 w w' := by
  go_enter Try.func13, Try.ntmps13
  go_wp2
  repeat (go_quiet (fail); try go_wp2)
  first | go_ret | go_end0 | go_ret2
  exact ⟨rfl, ⟨0, rfl⟩⟩
theorem length_nil (w : World) : Calls Try.prog 12 #[.pointer none, .int .i64 0] w fun e w' => e = .returned (.int .i64 0) ∧ Drawn0 w w' := by
  go_enter Try.func12, Try.ntmps12
  go_wp2
  repeat (go_quiet (fail); try go_wp2)
  first | go_ret | go_end0 | go_ret2
  exact ⟨rfl, ⟨0, rfl⟩⟩
theorem signs_nil (w : World) : Calls Try.prog 14 #[.pointer none] w fun e w' => e = .returned (.int .i64 0) ∧ Drawn0 w w' := by
  go_enter Try.func14, Try.ntmps14
  go_wp2
  repeat (go_quiet (fail); try go_wp2)
  first | go_ret | go_end0 | go_ret2
  exact ⟨rfl, ⟨0, rfl⟩⟩
set_option maxHeartbeats 4000000 in
set_option maxRecDepth 100000 in
theorem awake_calls (w : World) : Calls Try.prog 7 #[] w fun e w' => e = .returned (.bool true) ∧ Below w.heap.size w w' := by
  have HA := Aside0.mk (below_alloc (Below.refl w.heap.size w) (.cells #[.int .u8 2, .int .u8 1, .int .u8 3, .int .u8 3] 5))
  go_enter Try.func7, Try.ntmps7
  go_upto_region 2 with (go_at_call 21; refine (prefix_Words.calls _ _ [2, 1, 3, 3] [2, 0, 6, 7] 0 _ (lit_C w [2, 1, 3, 3] (by decide)) (by decide) words4).mono ?_; rintro e w1 ⟨vw, rfl, hrw, hbw⟩; obtain ⟨g2, c2, rfl, _, _, _⟩ := Kd.R_form hrw (by decide); obtain ⟨A2, c3, he, _, hrw⟩ := Kd.R_reads hrw; cases he; have HRW := Aside0.mk hrw; have HB := Aside0.mk (below_step HA.out hbw); clear hrw hbw)
  go_upto_region 3 with (go_at_call 8; refine (new_ok _ _ [2, 1, 3, 3] [2, 0, 6, 7] 32768 false _ (lit_C w1 [2, 1, 3, 3] (by decide)) (by decide) words4 fill4 (by decide) rfl (by decide) (by decide) (.inl (by decide))).mono ?_; rintro e w3 ⟨p, _, rfl, _, hb⟩; have HB3 := Aside0.mk (below_step (below_alloc (Below.refl w1.heap.size w1) (.cells #[.int .u8 2, .int .u8 1, .int .u8 3, .int .u8 3] 5)) hb); clear hb)
  have hC := Kd.C_below HRW.out HB3.out
  obtain ⟨a0, e0, h0⟩ := Kd.at_int hC 0 (by omega) (by decide)
  cases e0
  obtain ⟨a1, e1, h1⟩ := Kd.at_int hC 1 (by omega) (by decide)
  cases e1
  obtain ⟨a2, e2, h2⟩ := Kd.at_int hC 2 (by omega) (by decide)
  cases e2
  obtain ⟨a3, e3, h3⟩ := Kd.at_int hC 3 (by omega) (by decide)
  cases e3
  simp [rd, Addr.add] at h0 h1 h2 h3
  go_wp2
  go_ret
  exact ⟨rfl, below_step HB.out HB3.out⟩
end Go.Proofs.Ytlfcepdaicngjaa.Pk

/- Lengths of words: how far they fill, the first word of each length, the words; no word begins another one. Plain Lean, no program. -/
namespace Go.Proofs.Ytlfcepdaicngjaa.Pk
set_option linter.unusedVariables false
set_option linter.unusedSimpArgs false
/-- What a length fills of 2^15. -/
def unit (x : Nat) : Nat := if x = 0 then 0 else 2 ^ (15 - x)
def fillN (l : List Nat) : Nat := (l.map unit).sum
/-- How many have a length (none of 0). -/
def cn (l : List Nat) (n : Nat) : Nat := if n = 0 then 0 else l.count n
def firstN (l : List Nat) : Nat → Nat
  | 0 => 0
  | n + 1 => 2 * (firstN l n + cn l n)
/-- What lengths up to m fill. -/
def upTo (l : List Nat) : Nat → Nat
  | 0 => 0
  | m + 1 => upTo l m + cn l (m + 1) * 2 ^ (15 - (m + 1))
theorem upTo_cons (x : Nat) (l : List Nat) : ∀ m, upTo (x :: l) m = upTo l m + (if 0 < x ∧ x ≤ m then 2 ^ (15 - x) else 0)
  | 0 => by simp [upTo]; omega
  | m + 1 => by
    rw [upTo, upTo, upTo_cons x l m]
    have hc : cn (x :: l) (m + 1) = cn l (m + 1) + (if x = m + 1 then 1 else 0) := by
      unfold cn
      rw [if_neg (by omega), if_neg (by omega), List.count_cons]
      by_cases h : x = m + 1
      · simp [h]
      · simp [h]
    rw [hc]
    by_cases h : x = m + 1
    · subst h
      rw [if_neg (by omega), if_pos rfl, if_pos (by omega), Nat.add_mul, Nat.one_mul]; omega
    · rw [if_neg h, Nat.add_zero]
      by_cases h2 : 0 < x ∧ x ≤ m
      · rw [if_pos h2, if_pos (by omega)]; omega
      · rw [if_neg h2, if_neg (by omega)]; rfl
theorem upTo_le (m : Nat) : ∀ (l : List Nat), upTo l m ≤ fillN l
  | [] => by
    have : ∀ m, upTo [] m = 0 := by intro m; induction m with | zero => rfl | succ m ih => simp [upTo, ih, cn]
    rw [this]; exact Nat.zero_le _
  | x :: l => by
    have ih := upTo_le m l
    rw [upTo_cons]
    unfold fillN at ih ⊢
    rw [List.map_cons, List.sum_cons]
    unfold unit at ih ⊢
    by_cases h : 0 < x ∧ x ≤ m
    · rw [if_pos h, if_neg (by omega)]; omega
    · rw [if_neg h]; omega
theorem first_upTo (l : List Nat) : ∀ m, m ≤ 14 → firstN l (m + 1) * 2 ^ (14 - m) = upTo l m
  | 0, _ => by simp [firstN, upTo, cn]
  | m + 1, h => by
    have ih := first_upTo l m (by omega)
    rw [firstN, upTo, ← ih, Nat.mul_comm 2, Nat.mul_assoc, show 2 * 2 ^ (14 - (m + 1)) = 2 ^ (14 - m) by rw [show 14 - m = 14 - (m + 1) + 1 by omega, Nat.pow_succ, Nat.mul_comm], Nat.add_mul, show 15 - (m + 1) = 14 - m by omega]
/-- The words of each length fit. -/
theorem first_fit (l : List Nat) (hf : fillN l ≤ 32768) (m : Nat) (hm : m ≤ 15) : firstN l m + cn l m ≤ 2 ^ m := by
  cases m with
  | zero => simp [firstN, cn]
  | succ m =>
    have h1 := first_upTo l m (by omega)
    have h2 := upTo_le (m + 1) l
    rw [upTo, show 15 - (m + 1) = 14 - m by omega] at h2
    rw [← h1, ← Nat.add_mul] at h2
    have h3 : 2 ^ (m + 1) * 2 ^ (14 - m) = 32768 := by rw [← Nat.pow_add, show m + 1 + (14 - m) = 15 by omega]
    have h4 : (firstN l (m + 1) + cn l (m + 1)) * 2 ^ (14 - m) ≤ 2 ^ (m + 1) * 2 ^ (14 - m) := by omega
    exact Nat.le_of_mul_le_mul_right h4 (Nat.pow_pos (by omega))
theorem first_step (l : List Nat) (m n : Nat) (h : m ≤ n) : firstN l m * 2 ^ (n - m) ≤ firstN l n := by
  induction n with
  | zero => obtain rfl : m = 0 := by omega
            simp
  | succ n ih =>
    by_cases he : m = n + 1
    · subst he; simp
    · have := ih (by omega)
      rw [show n + 1 - m = n - m + 1 by omega, Nat.pow_succ, ← Nat.mul_assoc, firstN]
      omega
theorem first_over (l : List Nat) (m n : Nat) (h : m < n) : (firstN l m + cn l m) * 2 ^ (n - m) ≤ firstN l n := by
  have := first_step l (m + 1) n (by omega)
  rw [firstN] at this
  rw [show n - m = n - (m + 1) + 1 by omega, Nat.pow_succ, Nat.mul_comm (2 ^ _) 2, ← Nat.mul_assoc, Nat.mul_comm _ 2]
  exact this
/-- The word of a place (of a length that isn't 0). -/
def wordN (l : List Nat) (i : Nat) : Nat := firstN l (l.getD i 0) + (l.take i).count (l.getD i 0)
theorem count_take_lt (l : List Nat) (i : Nat) (hi : i < l.length) : (l.take i).count l[i] < l.count l[i] := by
  have h : l.count l[i] = (l.take i).count l[i] + (l.drop i).count l[i] := by rw [← List.count_append, List.take_append_drop]
  rw [h, List.drop_eq_getElem_cons hi, List.count_cons_self]
  omega
theorem word_lt (l : List Nat) (i : Nat) (hi : i < l.length) (hp : 0 < l[i]) : firstN l l[i] ≤ wordN l i ∧ wordN l i < firstN l l[i] + cn l l[i] := by
  have hg : l.getD i 0 = l[i] := by rw [List.getD_eq_getElem?_getD, List.getElem?_eq_getElem hi]; rfl
  have := count_take_lt l i hi
  unfold wordN cn
  rw [hg, if_neg (by omega)]
  omega
theorem word_fit (l : List Nat) (hf : fillN l ≤ 32768) (i : Nat) (hi : i < l.length) (hp : 0 < l[i]) (h15 : l[i] ≤ 15) : wordN l i < 2 ^ l[i] := by
  have h1 := (word_lt l i hi hp).2
  have h2 := first_fit l hf l[i] h15
  omega
/-- Two places with words of one length have words of their own. -/
theorem word_inj (l : List Nat) (i j : Nat) (hi : i < l.length) (hj : j < l.length) (he : l[i] = l[j]) (hw : wordN l i = wordN l j) : i = j := by
  have gi : l.getD i 0 = l[i] := by rw [List.getD_eq_getElem?_getD, List.getElem?_eq_getElem hi]; rfl
  have gj : l.getD j 0 = l[j] := by rw [List.getD_eq_getElem?_getD, List.getElem?_eq_getElem hj]; rfl
  have hmono : ∀ a b, (hab : a < b) → (hb : b ≤ l.length) → (l.take a).count (l[a]'(by omega)) < (l.take b).count (l[a]'(by omega)) := by
    intro a b hab hb
    have h1 : (l.take b).take a = l.take a := by rw [List.take_take, Nat.min_eq_left (by omega)]
    have h2 := count_take_lt (l.take b) a (by rw [List.length_take]; omega)
    rw [h1, List.getElem_take] at h2
    exact h2
  unfold wordN at hw
  rw [gi, gj, he] at hw
  have hw' : (l.take i).count l[j] = (l.take j).count l[j] := by omega
  rcases Nat.lt_trichotomy i j with h | h | h
  · have := hmono i j h (by omega); rw [he] at this; omega
  · exact h
  · have := hmono j i h (by omega); omega
/-- No word begins another one. -/
theorem word_prefix (l : List Nat) (hf : fillN l ≤ 32768) (i j : Nat) (hi : i < l.length) (hj : j < l.length) (hp : 0 < l[i]) (hlt : l[i] < l[j]) (h15 : l[j] ≤ 15) : wordN l j / 2 ^ (l[j] - l[i]) ≠ wordN l i := by
  intro h
  have h1 := (word_lt l i hi hp).2
  have h2 := (word_lt l j hj (by omega)).1
  have h3 := first_over l l[i] l[j] hlt
  have h4 : (firstN l l[i] + cn l l[i]) * 2 ^ (l[j] - l[i]) ≤ wordN l j := by omega
  have h5 := (Nat.le_div_iff_mul_le (Nat.pow_pos (by omega : 0 < 2))).2 h4
  omega
end Go.Proofs.Ytlfcepdaicngjaa.Pk

/- Plain: lengths that Fill takes. -/
namespace Go.Proofs.Ytlfcepdaicngjaa.Pk
set_option linter.unusedVariables false
set_option linter.unusedSimpArgs false
open Go Go.RowKit Go.Proofs.Ytlfcepdaicngjaa.P Go.Proofs.YtlfcepdaicngjaaW.PrintWords Go.Proofs.YtlfcepdaicngjaaW.PrintLast Go.Proofs.YtlfcepdaicngjaaW.PrintMore
/-- Where the loop answers OK, no length that it saw is above 15. -/
theorem fill_le (l0 : List Int) (n : Int) (hl : l0.length ≤ 4096) : ∀ (k : Nat) (acc i : Int), 0 ≤ i → prefix_Fill.l0 k acc l0 (l0.length : Int) i = some (n, 0) → ∀ j : Int, i ≤ j → j < l0.length → rd l0 j ≤ 15
  | 0, acc, i, _, h, _, _, _ => by simp [prefix_Fill.l0] at h
  | k + 1, acc, i, h0, h, j, hj, hj2 => by
    have hw : wrap64 (i + 1) = i + 1 := by unfold wrap64; omega
    rw [prefix_Fill.l0, if_pos (by omega), if_pos h0, if_pos (by omega), hw] at h
    by_cases h15 : rd l0 i > 15
    · rw [if_pos h15] at h; simp at h
    · rw [if_neg h15] at h
      by_cases he : j = i
      · subst he; omega
      · split at h
        · split at h
          · exact fill_le l0 n hl k _ _ (by omega) h j (by omega) hj2
          · simp at h
        · exact fill_le l0 n hl k _ _ (by omega) h j (by omega) hj2
theorem fill_okW (l0 : List Int) (n : Int) (hu : ∀ x ∈ l0, 0 ≤ x) (h : prefix_Fill.f 5000 l0 = some (n, 0)) : okW l0 = true := by
  unfold prefix_Fill.f at h
  split at h
  · simp at h
  · rename_i hl
    have hl2 : l0.length ≤ 4096 := by omega
    have key := fill_le l0 n hl2 5000 0 0 (by omega) h
    simp only [okW, Bool.and_eq_true, decide_eq_true_eq, List.all_eq_true]
    refine ⟨hl2, fun x hx => ⟨hu x hx, ?_⟩⟩
    obtain ⟨i, hi, rfl⟩ := List.mem_iff_getElem.1 hx
    have := key (i : Int) (by omega) (by omega)
    unfold rd at this
    rwa [Int.toNat_natCast, List.getD_eq_getElem?_getD, List.getElem?_eq_getElem hi, Option.getD_some] at this
/-- What a number of 32 bits may be. -/
def B32 (l : List Int) : Prop := ∀ v ∈ l, 0 ≤ v ∧ v < 4294967296
theorem B32.set {l : List Int} (h : B32 l) (i : Nat) (v : Int) (hv : 0 ≤ v ∧ v < 4294967296) : B32 (l.set i v) := fun x hx => by
  rcases List.mem_or_eq_of_mem_set hx with hx | rfl
  · exact h x hx
  · exact hv
theorem B32.getD {l : List Int} (h : B32 l) (i : Nat) : 0 ≤ l.getD i 0 ∧ l.getD i 0 < 4294967296 := by
  rw [List.getD_eq_getElem?_getD]
  by_cases hi : i < l.length
  · rw [List.getElem?_eq_getElem hi]; exact h _ (List.getElem_mem hi)
  · rw [List.getElem?_eq_none (by omega)]; simp
theorem zeros_B32 : B32 zeros17 := fun v hv => by
  have := List.eq_of_mem_replicate hv
  omega
theorem nextW_B32 (c : List Int) : ∀ m, B32 (nextW c m)
  | 0 => zeros_B32
  | m + 1 => by rw [nextW]; exact (nextW_B32 c m).set _ _ (by omega)
theorem foldW_B32 (l : List Int) : ∀ p : List Int × List Int, B32 p.1 → B32 p.2 → B32 (l.foldl stepW p).2 := by
  induction l with
  | nil => intro p _ h; exact h
  | cons x l ih =>
    intro p h1 h2
    rw [List.foldl_cons]
    unfold stepW
    split
    · refine ih _ (h1.set _ _ (by omega)) ?_
      intro v hv
      rcases List.mem_append.1 hv with hv | hv
      · exact h2 v hv
      · rw [List.mem_singleton.1 hv]; exact h1.getD _
    · refine ih _ h1 ?_
      intro v hv
      rcases List.mem_append.1 hv with hv | hv
      · exact h2 v hv
      · rw [List.mem_singleton.1 hv]; omega
/-- The words have 32 bits, and there are as many as lengths. -/
theorem wordsW_B32 (l : List Int) : B32 (wordsW l).2 := foldW_B32 l _ (nextW_B32 _ _) (fun v hv => by simp at hv)
theorem wordsW_length (l : List Int) : (wordsW l).2.length = l.length := by
  have := (foldW_len l (nextW ((cntW l).set 0 0) 15, [])).2
  simpa [wordsW] using this
theorem fill_some (l0 : List Int) (hl : l0.length ≤ 4096) (hu : ∀ x ∈ l0, 0 ≤ x) : ∀ (k : Nat) (acc : Int) (i : Nat), i ≤ l0.length → l0.length - i < k → ∃ r, prefix_Fill.l0 k acc l0 (l0.length : Int) (i : Int) = some r
  | 0, acc, i, _, h => absurd h (Nat.not_lt_zero _)
  | k + 1, acc, i, h0, h => by
    by_cases hi : i < l0.length
    · have hw : wrap64 ((i : Int) + 1) = ((i + 1 : Nat) : Int) := by unfold wrap64; omega
      have hr : 0 ≤ rd l0 (i : Int) := by
        unfold rd
        rw [Int.toNat_natCast, List.getD_eq_getElem?_getD, List.getElem?_eq_getElem hi, Option.getD_some]
        exact hu _ (List.getElem_mem hi)
      rw [prefix_Fill.l0, if_pos (by omega), if_pos (by omega), if_pos (by omega), hw]
      split
      · exact ⟨_, rfl⟩
      · split
        · (try rw [if_pos hr]); exact fill_some l0 hl hu k _ (i + 1) (by omega) (by omega)
        · exact fill_some l0 hl hu k _ (i + 1) (by omega) (by omega)
    · rw [prefix_Fill.l0, if_neg (by omega)]; exact ⟨_, rfl⟩
theorem fill_total (l0 : List Int) (hu : ∀ x ∈ l0, 0 ≤ x) : ∃ n e, prefix_Fill.f 5000 l0 = some (n, e) := by
  unfold prefix_Fill.f
  split
  · exact ⟨_, _, rfl⟩
  · rename_i hl
    obtain ⟨⟨n, e⟩, h⟩ := fill_some l0 (by omega) hu 5000 0 0 (by omega) (by omega)
    exact ⟨n, e, h⟩
/-- Words answers at any lengths. -/
theorem words_total (l0 : List Int) (hu : ∀ x ∈ l0, 0 ≤ x) : ∃ n e, prefix_Fill.f 5000 l0 = some (n, e) ∧ prefix_Words.f l0 = some (if e = 0 then (if n > 32768 then ([], 10) else ((wordsW l0).2, 0)) else ([], e)) := by
  obtain ⟨n, e, h⟩ := fill_total l0 hu
  refine ⟨n, e, h, ?_⟩
  unfold prefix_Words.f
  rw [h]
  by_cases he : e = 0
  · subst he
    have hok := fill_okW l0 n hu h
    by_cases hn : n > 32768
    · simp [hn]
    · simp [hn, hok]
  · simp [he]
theorem few_some (l0 : List Int) (hl : l0.length ≤ 4096) : ∀ (k : Nat) (acc : Int) (i : Nat), i ≤ l0.length → l0.length - i < k → ∃ r, prefix_few.l0 k acc l0 (l0.length : Int) (i : Int) = some r
  | 0, acc, i, _, h => absurd h (Nat.not_lt_zero _)
  | k + 1, acc, i, h0, h => by
    by_cases hi : i < l0.length
    · have hw : wrap64 ((i : Int) + 1) = ((i + 1 : Nat) : Int) := by unfold wrap64; omega
      rw [prefix_few.l0, if_pos (by omega), if_pos (by omega), if_pos (by omega), hw]
      split
      · exact ⟨_, rfl⟩
      · exact few_some l0 hl k _ (i + 1) (by omega) (by omega)
    · rw [prefix_few.l0, if_neg (by omega)]; exact ⟨_, rfl⟩
theorem few_total (l0 : List Int) (hl : l0.length ≤ 4096) : ∃ b, prefix_few.f 5000 l0 = some b := few_some l0 hl 5000 0 0 (by omega) (by omega)
end Go.Proofs.Ytlfcepdaicngjaa.Pk

/- Plain: the words that prefix.Words makes are Kraft's words. -/
namespace Go.Proofs.Ytlfcepdaicngjaa.Pk
set_option linter.unusedVariables false
set_option linter.unusedSimpArgs false
open Go Go.RowKit Go.Proofs.Ytlfcepdaicngjaa.P Go.Proofs.YtlfcepdaicngjaaW.PrintWords Go.Proofs.YtlfcepdaicngjaaW.PrintLast Go.Proofs.YtlfcepdaicngjaaW.PrintMore
/-- Lengths as natural numbers. -/
def nat (l : List Int) : List Nat := l.map Int.toNat
theorem nat_len (l : List Int) : (nat l).length = l.length := by simp [nat]
theorem nat_get (l : List Int) (i : Nat) (h : i < l.length) : (nat l)[i]'(by rw [nat_len]; exact h) = l[i].toNat := by simp [nat]
theorem nat_getD (l : List Int) (i : Nat) : (nat l).getD i 0 = (l.getD i 0).toNat := by
  rw [List.getD_eq_getElem?_getD, List.getD_eq_getElem?_getD, nat, List.getElem?_map]
  cases l[i]? <;> rfl
theorem getD_set (l : List Int) (i n : Nat) (v : Int) : (l.set i v).getD n 0 = if n = i ∧ i < l.length then v else l.getD n 0 := by
  rw [List.getD_eq_getElem?_getD, List.getD_eq_getElem?_getD, List.getElem?_set]
  by_cases h : i = n
  · subst h
    by_cases h2 : i < l.length
    · simp [h2]
    · simp [h2]
  · rw [if_neg h, if_neg (by omega)]
theorem cnt_gen : ∀ (l xs : List Int), xs.length = 17 → (∀ x ∈ l, 0 ≤ x ∧ x ≤ 15) → (∀ n, 0 ≤ xs.getD n 0 ∧ xs.getD n 0 + l.length < 4294967296) → ∀ n,
    (l.foldl (fun xs x => xs.set x.toNat ((xs.getD x.toNat 0 + 1) % 4294967296)) xs).getD n 0 = xs.getD n 0 + ((nat l).count n : Nat)
  | [], xs, _, _, _, n => by simp [nat]
  | x :: l, xs, h17, hx, hb, n => by
    have hx0 := hx x (by simp)
    have hbx := hb x.toNat
    simp only [List.length_cons] at hbx hb
    have hm : (xs.getD x.toNat 0 + 1) % 4294967296 = xs.getD x.toNat 0 + 1 := by omega
    rw [List.foldl_cons, hm, cnt_gen l _ (by rw [List.length_set]; exact h17) (fun y hy => hx y (by simp [hy])) ?_ n]
    · rw [getD_set]
      have hc : (nat (x :: l)).count n = (nat l).count n + if x.toNat = n then 1 else 0 := by
        simp only [nat, List.map_cons, List.count_cons, beq_iff_eq]
      rw [hc]
      by_cases h : n = x.toNat
      · subst h; rw [if_pos ⟨rfl, by omega⟩, if_pos rfl]; omega
      · rw [if_neg (fun q => h q.1), if_neg (fun q => h q.symm)]; omega
    · intro m
      have := hb m
      rw [getD_set]
      split
      · omega
      · omega
theorem zeros_get (n : Nat) : zeros17.getD n 0 = 0 := by
  rw [List.getD_eq_getElem?_getD]
  cases h : zeros17[n]? with
  | none => rfl
  | some v => exact List.eq_of_mem_replicate (List.mem_of_getElem? h)
theorem cnt_get (l : List Int) (hl : l.length ≤ 4096) (hx : ∀ x ∈ l, 0 ≤ x ∧ x ≤ 15) (n : Nat) : (cntW l).getD n 0 = ((nat l).count n : Nat) := by
  have := cnt_gen l zeros17 rfl hx (fun n => by rw [zeros_get]; omega) n
  rw [zeros_get, Int.zero_add] at this
  exact this
theorem next_get (L : List Nat) (hf : fillN L ≤ 32768) (c : List Int) (hc : ∀ n, 1 ≤ n → n ≤ 15 → c.getD n 0 = ((L.count n : Nat) : Int)) : ∀ m, m ≤ 15 → ∀ k, k ≤ m + 1 → (nextW c m).getD k 0 = ((firstN L k : Nat) : Int)
  | 0, _, k, hk => by
    rw [nextW, zeros_get]
    rcases (by omega : k = 0 ∨ k = 1) with rfl | rfl <;> simp [firstN, cn]
  | m + 1, hm, k, hk => by
    have ih := next_get L hf c hc m (by omega)
    rw [nextW, getD_set]
    by_cases h : k = m + 2
    · rw [if_pos ⟨h, by rw [nextW_len]; omega⟩, ih (m + 1) (by omega), hc (m + 1) (by omega) (by omega)]
      have h1 := first_fit L hf (m + 1) (by omega)
      have h2 : (2 : Nat) ^ (m + 1) ≤ 2 ^ 15 := Nat.pow_le_pow_right (by omega) (by omega)
      subst h
      have e : firstN L (m + 2) = 2 * (firstN L (m + 1) + cn L (m + 1)) := rfl
      have ec : cn L (m + 1) = L.count (m + 1) := by unfold cn; rw [if_neg (by omega)]
      rw [ec] at h1 e
      rw [e]
      omega
    · rw [if_neg (fun q => h q.1)]
      exact ih k (by omega)
theorem step_get (l : List Int) (hl : l.length ≤ 4096) (hx : ∀ x ∈ l, 0 ≤ x ∧ x ≤ 15) (hf : fillN (nat l) ≤ 32768) (c : List Int) (hc : ∀ n, 1 ≤ n → n ≤ 15 → c.getD n 0 = (((nat l).count n : Nat) : Int)) : ∀ i, i ≤ l.length →
    (∀ n, 1 ≤ n → n ≤ 15 → ((l.take i).foldl stepW (nextW c 15, [])).1.getD n 0 = ((firstN (nat l) n + ((nat l).take i).count n : Nat) : Int)) ∧
    (∀ j, j < i → ((l.take i).foldl stepW (nextW c 15, [])).2.getD j 0 = if 0 < l.getD j 0 then ((wordN (nat l) j : Nat) : Int) else 0)
  | 0, _ => by
    refine ⟨fun n h1 h2 => ?_, fun j hj => absurd hj (Nat.not_lt_zero _)⟩
    have := next_get (nat l) hf c hc 15 (by omega) n (by omega)
    simpa using this
  | i + 1, hi => by
    obtain ⟨ih1, ih2⟩ := step_get l hl hx hf c hc i (by omega)
    have hil : i < l.length := by omega
    have hfl := foldW_len (l.take i) (nextW c 15, [])
    have hl1 := hfl.1.trans (nextW_len c 15)
    have hl2 : ((l.take i).foldl stepW (nextW c 15, [])).2.length = i := by rw [hfl.2, List.length_take]; simp; omega
    have hxi := hx _ (List.getElem_mem hil)
    have hg : l.getD i 0 = l[i] := by rw [List.getD_eq_getElem?_getD, List.getElem?_eq_getElem hil]; rfl
    have ht : (nat l).take (i + 1) = (nat l).take i ++ [l[i].toNat] := by rw [List.take_succ_eq_append_getElem (by rw [nat_len]; exact hil), nat_get l i hil]
    rw [List.take_succ_eq_append_getElem hil, wordsW_snoc]
    have hwn : wordN (nat l) i = firstN (nat l) l[i].toNat + ((nat l).take i).count l[i].toNat := by
      unfold wordN
      rw [nat_getD, hg]
    obtain ⟨p, hp⟩ : ∃ p, (l.take i).foldl stepW (nextW c 15, []) = p := ⟨_, rfl⟩
    rw [hp] at ih1 ih2 hl1 hl2 ⊢
    have hap : ∀ v : Int, ∀ j, j < i + 1 → (p.2 ++ [v]).getD j 0 = if j = i then v else p.2.getD j 0 := by
      intro v j hj
      rw [List.getD_eq_getElem?_getD, List.getD_eq_getElem?_getD]
      by_cases h : j = i
      · rw [List.getElem?_append_right (by omega), hl2, h]; simp
      · rw [List.getElem?_append_left (by omega), if_neg h]
    unfold stepW
    by_cases hz : l[i] > 0
    · rw [if_pos hz]
      have h1 := first_fit (nat l) hf l[i].toNat (by omega)
      have h2 : (2 : Nat) ^ l[i].toNat ≤ 2 ^ 15 := Nat.pow_le_pow_right (by omega) (by omega)
      have h3 := ih1 l[i].toNat (by omega) (by omega)
      have h4 : ((nat l).take i).count l[i].toNat ≤ 4096 := by
        have := List.count_le_length (a := l[i].toNat) (l := (nat l).take i)
        rw [List.length_take] at this
        omega
      refine ⟨fun n q1 q2 => ?_, fun j hj => ?_⟩
      · dsimp only
        rw [getD_set, ht, List.count_append, h3]
        by_cases h : n = l[i].toNat
        · rw [if_pos ⟨h, by omega⟩, ← h, List.count_singleton, if_pos (by simp)]
          have ec : cn (nat l) n = (nat l).count n := by unfold cn; rw [if_neg (by omega)]
          rw [← h, ec] at h1
          rw [← h] at h2 h4
          omega
        · rw [if_neg (fun q => h q.1), ih1 n q1 q2, List.count_singleton, if_neg (by simp; omega)]
          rfl
      · dsimp only
        rw [hap _ j hj]
        by_cases h : j = i
        · rw [if_pos h, h, hg, if_pos hz, h3, hwn]
        · rw [if_neg h]; exact ih2 j (by omega)
    · rw [if_neg hz]
      refine ⟨fun n q1 q2 => ?_, fun j hj => ?_⟩
      · dsimp only
        rw [ht, List.count_append, ih1 n q1 q2, List.count_singleton, if_neg (by simp; omega)]
        rfl
      · dsimp only
        rw [hap _ j hj]
        by_cases h : j = i
        · rw [if_pos h, h, hg, if_neg hz]
        · rw [if_neg h]; exact ih2 j (by omega)
/-- The words of lengths are Kraft's. -/
theorem words_get (l : List Int) (hok : okW l = true) (hf : fillN (nat l) ≤ 32768) (i : Nat) (hi : i < l.length) : (wordsW l).2.getD i 0 = if 0 < l.getD i 0 then ((wordN (nat l) i : Nat) : Int) else 0 := by
  obtain ⟨hl, hx⟩ : l.length ≤ 4096 ∧ ∀ x ∈ l, 0 ≤ x ∧ x ≤ 15 := by simpa [okW] using hok
  have := (step_get l hl hx hf ((cntW l).set 0 0) (fun n h1 h2 => by rw [getD_set, if_neg (fun q => by omega), cnt_get l hl hx n]) l.length (Nat.le_refl _)).2 i hi
  rw [List.take_length] at this
  exact this
end Go.Proofs.Ytlfcepdaicngjaa.Pk

/- Plain: what a code's look-up tells; a whole code: any 15 bits begin with a word. -/
namespace Go.Proofs.Ytlfcepdaicngjaa.Pk
set_option linter.unusedVariables false
set_option linter.unusedSimpArgs false
open Go Go.RowKit Go.Proofs.Ytlfcepdaicngjaa.P Go.Proofs.Ytlfcepdaicngjaa.MapV Go.Proofs.YtlfcepdaicngjaaW.PrintWords Go.Proofs.YtlfcepdaicngjaaW.PrintLast Go.Proofs.YtlfcepdaicngjaaW.PrintMore
/-- Bits in the other order. -/
def rvs (v : Nat) : Nat → Nat
  | 0 => 0
  | i + 1 => 2 * rvs v i + v / 2 ^ i % 2
theorem rvs_lt (v : Nat) : ∀ i, rvs v i < 2 ^ i
  | 0 => by simp [rvs]
  | i + 1 => by have := rvs_lt v i; rw [rvs, Nat.pow_succ]; omega
theorem rvs_pre (v : Nat) : ∀ l d, rvs v (l + d) / 2 ^ d = rvs v l
  | l, 0 => by simp
  | l, d + 1 => by
    rw [← Nat.add_assoc, rvs, Nat.pow_succ, Nat.mul_comm (2 ^ d) 2, ← Nat.div_div_eq_div_mul, show (2 * rvs v (l + d) + v / 2 ^ (l + d) % 2) / 2 = rvs v (l + d) by omega, rvs_pre v l d]
theorem fill_val (l0 : List Int) (n : Int) (hl : l0.length ≤ 4096) (hx : ∀ x ∈ l0, 0 ≤ x ∧ x ≤ 15) : ∀ (k : Nat) (acc : Int) (i : Nat), i ≤ l0.length → 0 ≤ acc → acc ≤ 32768 * i → prefix_Fill.l0 k acc l0 (l0.length : Int) (i : Int) = some (n, 0) → n = acc + (fillN ((nat l0).drop i) : Nat)
  | 0, acc, i, _, _, _, h => by simp [prefix_Fill.l0] at h
  | k + 1, acc, i, h0, ha, hb, h => by
    by_cases hi : i < l0.length
    · have hw : wrap64 ((i : Int) + 1) = ((i + 1 : Nat) : Int) := by unfold wrap64; omega
      have hr : rd l0 (i : Int) = l0[i] := by
        unfold rd
        rw [Int.toNat_natCast, List.getD_eq_getElem?_getD, List.getElem?_eq_getElem hi, Option.getD_some]
      have hxi := hx _ (List.getElem_mem hi)
      have hd : (nat l0).drop i = l0[i].toNat :: (nat l0).drop (i + 1) := by rw [List.drop_eq_getElem_cons (by rw [nat_len]; exact hi), nat_get l0 i hi]
      have hf : fillN ((nat l0).drop i) = unit l0[i].toNat + fillN ((nat l0).drop (i + 1)) := by rw [hd]; simp [fillN]
      rw [prefix_Fill.l0, if_pos (by omega), if_pos (by omega), if_pos (by omega), hw, hr, if_neg (by omega)] at h
      obtain ⟨x, hxx⟩ : ∃ x : Nat, l0[i] = (x : Int) := ⟨l0[i].toNat, by omega⟩
      rw [hxx] at h hxi hf
      rw [Int.toNat_natCast] at hf
      by_cases hz : 0 < x
      · rw [if_pos (by omega), if_pos (by omega)] at h
        have hs : shr .i64 32768 (x : Int) = ((2 ^ (15 - x) : Nat) : Int) := by
          unfold shr
          rw [Int.toNat_natCast, Nat.min_eq_left (by simp [IntKind.bits]; omega)]
          rcases (by omega : x = 1 ∨ x = 2 ∨ x = 3 ∨ x = 4 ∨ x = 5 ∨ x = 6 ∨ x = 7 ∨ x = 8 ∨ x = 9 ∨ x = 10 ∨ x = 11 ∨ x = 12 ∨ x = 13 ∨ x = 14 ∨ x = 15) with rfl | rfl | rfl | rfl | rfl | rfl | rfl | rfl | rfl | rfl | rfl | rfl | rfl | rfl | rfl <;> rfl
        have hp : (2 : Nat) ^ (15 - x) ≤ 2 ^ 15 := Nat.pow_le_pow_right (by omega) (by omega)
        have hu : unit x = 2 ^ (15 - x) := by unfold unit; rw [if_neg (by omega)]
        rw [hs] at h
        have hw2 : wrap64 (acc + ((2 ^ (15 - x) : Nat) : Int)) = acc + ((2 ^ (15 - x) : Nat) : Int) := by unfold wrap64; omega
        rw [hw2] at h
        have := fill_val l0 n hl hx k _ (i + 1) (by omega) (by omega) (by omega) h
        rw [hf, hu]
        omega
      · rw [if_neg (by omega)] at h
        have hu : unit x = 0 := by unfold unit; rw [if_pos (by omega)]
        have := fill_val l0 n hl hx k _ (i + 1) (by omega) (by omega) (by omega) h
        rw [hf, hu]
        omega
    · rw [prefix_Fill.l0, if_neg (by omega)] at h
      simp only [Option.some.injEq, Prod.mk.injEq, and_true] at h
      rw [List.drop_of_length_le (by rw [nat_len]; omega)]
      simp [fillN, h]
theorem fill_is (l0 : List Int) (n : Int) (hok : okW l0 = true) (h : prefix_Fill.f 5000 l0 = some (n, 0)) : n = ((fillN (nat l0) : Nat) : Int) := by
  obtain ⟨hl, hx⟩ : l0.length ≤ 4096 ∧ ∀ x ∈ l0, 0 ≤ x ∧ x ≤ 15 := by simpa [okW] using hok
  unfold prefix_Fill.f at h
  rw [if_neg (by omega)] at h
  have := fill_val l0 n hl hx 5000 0 0 (by omega) (by omega) (by omega) h
  simpa using this
theorem upTo_all (m : Nat) : ∀ (l : List Nat), (∀ x ∈ l, x ≤ m) → upTo l m = fillN l
  | [], _ => by
    have : ∀ m, upTo [] m = 0 := by intro m; induction m with | zero => rfl | succ m ih => simp [upTo, ih, cn]
    rw [this]; rfl
  | x :: l, h => by
    have hx := h x (by simp)
    have ih := upTo_all m l (fun y hy => h y (by simp [hy]))
    rw [upTo_cons, ih]
    unfold fillN
    rw [List.map_cons, List.sum_cons]
    unfold unit
    by_cases h0 : x = 0
    · rw [if_neg (by omega), if_pos h0]; omega
    · rw [if_pos (by omega), if_neg h0]; omega
theorem locate (L : List Nat) (V : Nat) : ∀ m, V < upTo L m → ∃ k, k < m ∧ upTo L k ≤ V ∧ V < upTo L (k + 1)
  | 0, h => by simp [upTo] at h
  | m + 1, h => by
    by_cases hv : V < upTo L m
    · obtain ⟨k, h1, h2⟩ := locate L V m hv
      exact ⟨k, by omega, h2⟩
    · exact ⟨m, by omega, by omega, h⟩
theorem nth_count (x : Nat) : ∀ (L : List Nat) (k : Nat), k < L.count x → ∃ i, ∃ h : i < L.length, L[i] = x ∧ (L.take i).count x = k
  | [], k, h => by simp at h
  | y :: L, k, h => by
    rw [List.count_cons] at h
    by_cases he : y = x
    · cases k with
      | zero => exact ⟨0, by simp, by simpa using he, by simp⟩
      | succ k =>
        rw [if_pos (by simpa using he)] at h
        obtain ⟨i, hi, h1, h2⟩ := nth_count x L k (by omega)
        exact ⟨i + 1, by simpa using hi, by simpa using h1, by rw [List.take_succ_cons, List.count_cons, h2, if_pos (by simpa using he)]⟩
    · rw [if_neg (by simpa using he)] at h
      obtain ⟨i, hi, h1, h2⟩ := nth_count x L k (by omega)
      exact ⟨i + 1, by simpa using hi, by simpa using h1, by rw [List.take_succ_cons, List.count_cons, h2, if_neg (by simpa using he)]; rfl⟩
/-- Of a whole code any 15 bits begin with a word. -/
theorem cover (L : List Nat) (hf : fillN L = 32768) (h15 : ∀ x ∈ L, x ≤ 15) (V : Nat) (hV : V < 32768) : ∃ i, ∃ h : i < L.length, 0 < L[i] ∧ V / 2 ^ (15 - L[i]) = wordN L i := by
  have hall := upTo_all 15 L h15
  obtain ⟨m, hm, h1, h2⟩ := locate L V 15 (by omega)
  have e1 := first_upTo L m (by omega)
  rw [upTo, show 15 - (m + 1) = 14 - m by omega, ← e1, ← Nat.add_mul] at h2
  rw [← e1] at h1
  have hp : 0 < 2 ^ (14 - m) := Nat.pow_pos (by omega)
  have h3 := (Nat.le_div_iff_mul_le hp).2 h1
  have h4 := (Nat.div_lt_iff_lt_mul hp).2 h2
  have hc : cn L (m + 1) = L.count (m + 1) := by unfold cn; rw [if_neg (by omega)]
  obtain ⟨i, hi, h5, h6⟩ := nth_count (m + 1) L (V / 2 ^ (14 - m) - firstN L (m + 1)) (by omega)
  refine ⟨i, hi, by omega, ?_⟩
  have hg : L.getD i 0 = m + 1 := by rw [List.getD_eq_getElem?_getD, List.getElem?_eq_getElem hi, Option.getD_some, h5]
  unfold wordN
  rw [hg, h6, h5, show 15 - (m + 1) = 14 - m by omega]
  omega
theorem mostW_ge (ls : List Int) : ∀ j, 0 ≤ mostW ls j ∧ ∀ i, i < j → ls.getD i 0 ≤ mostW ls j
  | 0 => ⟨by simp [mostW], fun i h => absurd h (Nat.not_lt_zero _)⟩
  | j + 1 => by
    obtain ⟨h0, h1⟩ := mostW_ge ls j
    rw [mostW]
    refine ⟨by split <;> omega, fun i hi => ?_⟩
    by_cases he : i = j
    · subst he; split <;> omega
    · have := h1 i (by omega); split <;> omega
theorem signs_tell (ls ws : List Int) (t : Wd) (u : Value) : ∀ j, signsG ls ws j t = some u → ∃ i, i < j ∧ u = .int .i64 (i : Int) ∧ ls.getD i 0 > 0 ∧ t = wd (ls.getD i 0) (ws.getD i 0)
  | 0, h => by simp [signsG] at h
  | j + 1, h => by
    rw [signsG] at h
    by_cases hz : ls.getD j 0 > 0
    · rw [if_pos hz] at h
      unfold upd at h
      by_cases ht : t = wd (ls.getD j 0) (ws.getD j 0)
      · rw [if_pos ht] at h
        exact ⟨j, by omega, by injection h with h; exact h.symm, hz, ht⟩
      · rw [if_neg ht] at h
        obtain ⟨i, h1, h2⟩ := signs_tell ls ws t u j h
        exact ⟨i, by omega, h2⟩
    · rw [if_neg hz] at h
      obtain ⟨i, h1, h2⟩ := signs_tell ls ws t u j h
      exact ⟨i, by omega, h2⟩
theorem signs_there (ls ws : List Int) (i : Nat) (hi : ls.getD i 0 > 0) : ∀ j, i < j → ∃ u, signsG ls ws j (wd (ls.getD i 0) (ws.getD i 0)) = some u
  | 0, h => absurd h (Nat.not_lt_zero _)
  | j + 1, h => by
    rw [signsG]
    by_cases he : i = j
    · subst he
      rw [if_pos hi]
      exact ⟨_, by unfold upd; rw [if_pos rfl]⟩
    · obtain ⟨u, hu⟩ := signs_there ls ws i hi j (by omega)
      split
      · unfold upd
        split
        · exact ⟨_, rfl⟩
        · exact ⟨u, hu⟩
      · exact ⟨u, hu⟩
theorem wd_inj (x v y u : Int) (h0 : 0 ≤ x) (h1 : x < 256) (h2 : 0 ≤ v) (h3 : v < 4294967296) (k0 : 0 ≤ y) (k1 : y < 256) (k2 : 0 ≤ u) (k3 : u < 4294967296) (h : wd x v = wd y u) : x = y ∧ v = u := by
  have e := congrArg encW h
  rw [enc_wd x v h0 h1 h2 h3, enc_wd y u k0 k1 k2 k3] at e
  simpa using e
/-- What New knows of a code. -/
structure CodeOk (ls ws : List Int) : Prop where
  len : ws.length = ls.length
  few : ls.length ≤ 4096
  rng : ∀ x ∈ ls, 0 ≤ x ∧ x ≤ 15
  fit : fillN (nat ls) ≤ 32768
  val : ∀ i, i < ls.length → ws.getD i 0 = if 0 < ls.getD i 0 then ((wordN (nat ls) i : Nat) : Int) else 0
theorem code_ok (l : List Int) (n : Int) (hok : okW l = true) (hF : prefix_Fill.f 5000 l = some (n, 0)) (hn : n ≤ 32768) : CodeOk l (wordsW l).2 := by
  have hn2 := fill_is l n hok hF
  have hf : fillN (nat l) ≤ 32768 := by omega
  obtain ⟨hl, hx⟩ : l.length ≤ 4096 ∧ ∀ x ∈ l, 0 ≤ x ∧ x ≤ 15 := by simpa [okW] using hok
  exact ⟨wordsW_length l, hl, hx, hf, fun i hi => words_get l hok hf i hi⟩
section
variable {ls ws : List Int} (h : CodeOk ls ws)
include h
theorem CodeOk.at_ (i : Nat) (hi : i < ls.length) : ls.getD i 0 = (((nat ls)[i]'(by rw [nat_len]; exact hi) : Nat) : Int) ∧ (nat ls)[i]'(by rw [nat_len]; exact hi) ≤ 15 := by
  have hg : ls.getD i 0 = ls[i] := by rw [List.getD_eq_getElem?_getD, List.getElem?_eq_getElem hi]; rfl
  have := h.rng _ (List.getElem_mem hi)
  rw [nat_get ls i hi, hg]
  omega
theorem CodeOk.word (i : Nat) (hi : i < ls.length) (hp : 0 < (nat ls)[i]'(by rw [nat_len]; exact hi)) : ws.getD i 0 = ((wordN (nat ls) i : Nat) : Int) ∧ wordN (nat ls) i < 2 ^ (nat ls)[i]'(by rw [nat_len]; exact hi) ∧ wordN (nat ls) i < 32768 := by
  obtain ⟨h1, h2⟩ := h.at_ i hi
  have h3 := h.val i hi
  rw [if_pos (by omega)] at h3
  have h4 := word_fit (nat ls) h.fit i (by rw [nat_len]; exact hi) hp h2
  have h5 : (2 : Nat) ^ (nat ls)[i]'(by rw [nat_len]; exact hi) ≤ 2 ^ 15 := Nat.pow_le_pow_right (by omega) h2
  exact ⟨h3, h4, by omega⟩
theorem CodeOk.look (x v : Nat) (hx : x ≤ 15) (hv : v < 4294967296) (u : Value) (hu : signsG ls ws ls.length (wd x v) = some u) : ∃ i, ∃ hi : i < ls.length, u = .int .i64 (i : Int) ∧ 0 < x ∧ (nat ls)[i]'(by rw [nat_len]; exact hi) = x ∧ wordN (nat ls) i = v := by
  obtain ⟨i, hi, h1, h2, h3⟩ := signs_tell ls ws _ u _ hu
  obtain ⟨h4, h5⟩ := h.at_ i hi
  obtain ⟨h6, h7, h8⟩ := h.word i hi (by omega)
  rw [h4, h6] at h3
  obtain ⟨e1, e2⟩ := wd_inj _ _ _ _ (by omega) (by omega) (by omega) (by omega) (by omega) (by omega) (by omega) (by omega) h3
  exact ⟨i, hi, h1, by omega, by omega, by omega⟩
theorem CodeOk.has (i : Nat) (hi : i < ls.length) (hp : 0 < (nat ls)[i]'(by rw [nat_len]; exact hi)) : signsG ls ws ls.length (wd (((nat ls)[i]'(by rw [nat_len]; exact hi) : Nat) : Int) ((wordN (nat ls) i : Nat) : Int)) = some (.int .i64 (i : Int)) := by
  obtain ⟨h4, h5⟩ := h.at_ i hi
  obtain ⟨h6, h7, h8⟩ := h.word i hi hp
  obtain ⟨u, hu⟩ := signs_there ls ws i (by omega) ls.length hi
  rw [h4, h6] at hu
  obtain ⟨k, hk, e1, e2, e3, e4⟩ := h.look _ _ h5 (by omega) u hu
  have := word_inj (nat ls) k i (by rw [nat_len]; exact hk) (by rw [nat_len]; exact hi) e3 e4
  rw [hu, e1, this]
theorem CodeOk.most (i : Nat) (hi : i < ls.length) : (((nat ls)[i]'(by rw [nat_len]; exact hi) : Nat) : Int) ≤ mostW ls ls.length := by
  rw [← (h.at_ i hi).1]
  exact (mostW_ge ls ls.length).2 i hi
/-- Where a whole code tells no sign, a word goes on. -/
theorem CodeOk.whole (hw : fillN (nat ls) = 32768) (v t : Nat) (ht : t ≤ 15) (hno : ∀ l, 1 ≤ l → l ≤ t → signsG ls ws ls.length (wd (l : Int) ((rvs v l : Nat) : Int)) = none) :
    (t : Int) < mostW ls ls.length ∧ ∃ i, ∃ hi : i < ls.length, t < (nat ls)[i]'(by rw [nat_len]; exact hi) ∧ wordN (nat ls) i / 2 ^ ((nat ls)[i]'(by rw [nat_len]; exact hi) - t) = rvs v t := by
  have h15 : ∀ x ∈ nat ls, x ≤ 15 := by
    intro x hx
    obtain ⟨i, hi, rfl⟩ := List.mem_iff_getElem.1 hx
    exact (h.at_ i (by rw [nat_len] at hi; exact hi)).2
  have hV : rvs v t * 2 ^ (15 - t) < 32768 := by
    calc rvs v t * 2 ^ (15 - t) < 2 ^ t * 2 ^ (15 - t) := Nat.mul_lt_mul_of_pos_right (rvs_lt v t) (Nat.pow_pos (by omega))
      _ = 32768 := by rw [← Nat.pow_add, show t + (15 - t) = 15 by omega]
  obtain ⟨i, hi, h1, h2⟩ := cover (nat ls) hw h15 _ hV
  have hi' : i < ls.length := by rw [nat_len] at hi; exact hi
  have h3 := h15 _ (List.getElem_mem hi)
  have hm := h.most i hi'
  have hlt : t < (nat ls)[i] := by
    apply Nat.lt_of_not_le
    intro hle
    obtain ⟨d, hd⟩ : ∃ d, t = (nat ls)[i] + d := ⟨t - (nat ls)[i], by omega⟩
    have e : rvs v t * 2 ^ (15 - t) / 2 ^ (15 - (nat ls)[i]) = rvs v (nat ls)[i] := by
      rw [show 15 - (nat ls)[i] = (15 - t) + d by omega, Nat.pow_add, ← Nat.div_div_eq_div_mul, Nat.mul_div_cancel _ (Nat.pow_pos (by omega))]
      have := rvs_pre v (nat ls)[i] d
      rw [← hd] at this
      exact this
    have hn := hno (nat ls)[i] (by omega) hle
    rw [← e, h2, h.has i hi' h1] at hn
    cases hn
  refine ⟨by omega, i, hi', hlt, ?_⟩
  rw [← h2, Nat.div_div_eq_div_mul, ← Nat.pow_add, show 15 - (nat ls)[i] + ((nat ls)[i] - t) = 15 - t by omega, Nat.mul_div_cancel _ (Nat.pow_pos (by omega))]
end
end Go.Proofs.Ytlfcepdaicngjaa.Pk

/- prefix.Code: its methods goes and Length: the walks. -/
namespace Go.Proofs.Ytlfcepdaicngjaa.Pk
set_option linter.unusedVariables false
set_option linter.unusedSimpArgs false
open Go Go.RowKit Go.Proofs.Ytlfcepdaicngjaa.P Go.Proofs.Ytlfcepdaicngjaa.MapV Go.Proofs.YtlfcepdaicngjaaW.PrintWords Go.Proofs.YtlfcepdaicngjaaW.PrintLast Go.Proofs.YtlfcepdaicngjaaW.PrintMore
theorem IsCode.below {w w' : World} {p : Nat} {ls ws : List Int} (h : IsCode w p ls ws) (hb : Below w.heap.size w w') : IsCode w' p ls ws := by
  obtain ⟨A1, c1, A2, c2, b, h1, h2, h3, h4⟩ := h
  exact ⟨A1, c1, A2, c2, b, (hb.block p (blk_lt h1)).trans h1, Kd.C_below h2 hb, Kd.C_below h3 hb, h4.below hb⟩
theorem IsCode.lt {w : World} {p : Nat} {ls ws : List Int} (h : IsCode w p ls ws) : p < w.heap.size := by
  obtain ⟨A1, c1, A2, c2, b, h1, _⟩ := h
  exact blk_lt h1
/-- Does the word of a place go on behind t bits v? -/
def goesP (ls ws : List Int) (v t i : Nat) : Prop := (t : Int) < ls.getD i 0 ∧ (ws.getD i 0).toNat / 2 ^ ((ls.getD i 0).toNat - t) = v
theorem shr32 (x t : Nat) (ht : t ≤ 31) : shr .u32 (x : Int) (t : Int) = ((x / 2 ^ t : Nat) : Int) := by
  unfold shr
  rw [Int.toNat_natCast, Nat.min_eq_left (by simp [IntKind.bits]; omega)]
  simp
set_option maxHeartbeats 4000000 in
set_option maxRecDepth 100000 in
theorem goes_calls (p v t : Nat) (ls ws : List Int) (w : World) (hk : CodeOk ls ws) (hC : IsCode w p ls ws) (hv : v < 4294967296) (ht : t ≤ 32) :
    Calls Try.prog 28 #[.pointer (some ⟨p, 0, none⟩), .int .u32 (v : Int), .int .i64 (t : Int)] w fun e w' => ∃ b, e = .returned (.bool b) ∧ (b = true ↔ ∃ i, i < ls.length ∧ goesP ls ws v t i) ∧ Below w.heap.size w w' := by
  have HK := Aside0.mk hk
  have hlen := hk.few
  have hwl := hk.len
  obtain ⟨A1, c1, A2, c2, mb, hP, hA1, hA2, hM⟩ := hC
  have HP := Aside0.mk hP
  have HA1 := Aside0.mk hA1
  have HA2 := Aside0.mk hA2
  have hc0 := blk_cell hP 0
  have hc1 := blk_cell hP 1
  simp only [List.getElem?_toArray, List.getElem?_cons_zero, List.getElem?_cons_succ] at hc0 hc1
  have HC1 := Aside0.mk hc1
  clear hP hA1 hA2 hM hk hc1
  go_enter Try.func28, Try.ntmps28
  go_wp2
  have HB := Aside0.mk (Below.refl w.heap.size w)
  go_loopw [14] (fun v14 wr => ∃ j : Nat, v14 = .int .i64 j ∧ j ≤ ls.length ∧ Aside0 (∀ i, i < j → ¬ goesP ls ws v t i) ∧ Aside0 (Below w.heap.size w wr))
    (fun v14 _ => ls.length - (intOf v14).toNat)
  case atStart => exact ⟨0, rfl, by omega, ⟨fun i hi => absurd hi (Nat.not_lt_zero _)⟩, HB⟩
  case round =>
    clear HB hc0
    obtain ⟨j, rfl, hj, HNO, HB⟩ := hrel
    have hc1 := (HB.out.cell (World.block_lt_of_cell? w _ HC1.out)).trans HC1.out
    by_cases hlt : j < ls.length
    · have hd : decide (j < ls.length) = true := decide_eq_true hlt
      have hd2 : decide (j < ws.length) = true := decide_eq_true (by omega)
      obtain ⟨ad, hA, hx⟩ := Kd.at_int HA1.out (j : Int) (by omega) (by omega)
      cases hA
      replace hx := (HB.out.cell (World.block_lt_of_cell? w _ hx)).trans hx
      have hg : rd ls (j : Int) = ls.getD j 0 := by unfold rd; rw [Int.toNat_natCast]
      rw [hg] at hx
      simp only [Int.toNat_natCast] at hx
      obtain ⟨ad2, hA2, hy⟩ := Kd.at_int HA2.out (j : Int) (by omega) (by omega)
      cases hA2
      replace hy := (HB.out.cell (World.block_lt_of_cell? w _ hy)).trans hy
      have hg2 : rd ws (j : Int) = ws.getD j 0 := by unfold rd; rw [Int.toNat_natCast]
      rw [hg2] at hy
      simp only [Int.toNat_natCast] at hy
      obtain ⟨h4, h5⟩ := HK.out.at_ j hlt
      have hgo : goesP ls ws v t j ↔ (t : Int) < ls.getD j 0 ∧ (ws.getD j 0).toNat / 2 ^ ((ls.getD j 0).toNat - t) = v := Iff.rfl
      have hww : 0 < ls.getD j 0 → 0 ≤ ws.getD j 0 ∧ ws.getD j 0 < 32768 := by
        intro hp
        obtain ⟨h6, h7, h8⟩ := HK.out.word j hlt (by omega)
        omega
      obtain ⟨x, hxx⟩ : ∃ x : Nat, ls.getD j 0 = (x : Int) := ⟨_, h4⟩
      obtain ⟨y, hyy⟩ : ∃ y, ws.getD j 0 = y := ⟨_, rfl⟩
      rw [hxx] at hx hgo hww
      rw [hyy] at hy hgo hww
      have hx15 : x ≤ 15 := by omega
      have HGO := Aside0.mk hgo
      clear hgo hxx hyy hg hg2 h4 h5
      by_cases hz : t < x
      · have hzb : decide (t < x) = true := decide_eq_true hz
        obtain ⟨y, rfl⟩ : ∃ z : Nat, y = (z : Int) := ⟨y.toNat, by have := hww (by omega); omega⟩
        have hsub : (x : Int) - (t : Int) = ((x - t : Nat) : Int) := by omega
        have hsh := shr32 y (x - t) (by omega)
        rw [Int.toNat_natCast, Int.toNat_natCast] at HGO
        have HCAST : Aside0 ((y : Int) / 2 ^ (x - t) = ((y / 2 ^ (x - t) : Nat) : Int)) := ⟨by simp⟩
        go_wp2
        · rename_i hq
          have he : y / 2 ^ (x - t) = v := by have := beq_iff_eq.1 hq; rw [HCAST.out] at this; omega
          go_ret
          exact ⟨true, rfl, by simp; exact ⟨j, hlt, HGO.out.2 ⟨by omega, he⟩⟩, HB.out⟩
        · rename_i hq
          have he : y / 2 ^ (x - t) ≠ v := fun e => by rw [HCAST.out, e] at hq; simp at hq
          refine ⟨⟨j + 1, by go_num, by omega, ⟨fun i hi => ?_⟩, HB⟩, by simp [intOf]; omega⟩
          by_cases hij : i = j
          · subst hij; exact fun q => he (HGO.out.1 q).2
          · exact HNO.out i (by omega)
      · have hzb : decide (t < x) = false := decide_eq_false hz
        go_wp2
        refine ⟨⟨j + 1, by go_num, by omega, ⟨fun i hi => ?_⟩, HB⟩, by simp [intOf]; omega⟩
        by_cases hij : i = j
        · subst hij; exact fun q => hz (by have := (HGO.out.1 q).1; omega)
        · exact HNO.out i (by omega)
    · have hd : decide (j < ls.length) = false := decide_eq_false hlt
      obtain rfl : j = ls.length := by omega
      go_wp2
      go_ret
      exact ⟨false, rfl, by simp; intro i hi; exact HNO.out i hi, HB.out⟩
end Go.Proofs.Ytlfcepdaicngjaa.Pk

/- Plain facts on bytes, little-endian numbers and 64-bit words: no program in sight. -/
namespace Go.Proofs.Ytlfcepdaicngjaa.B
set_option linter.unusedVariables false
set_option linter.unusedSimpArgs false
open Go Go.RowKit Go.Proofs.YtlfcepdaicngjaaW.PrintWords Go.Proofs.YtlfcepdaicngjaaW.PrintLast Go.Proofs.YtlfcepdaicngjaaW.PrintMore

theorem wrap_id {x : Int} (h0 : -9223372036854775808 ≤ x) (h1 : x ≤ 9223372036854775807) : wrap64 x = x := by
  unfold wrap64; omega
theorem u64_mod (x : Int) : IntKind.u64.wrap x = x % 18446744073709551616 := by simp [IntKind.wrap, IntKind.bits, IntKind.signed]
theorem u64_id {x : Int} (h0 : 0 ≤ x) (h1 : x < 18446744073709551616) : IntKind.u64.wrap x = x := by rw [u64_mod]; omega
theorem u16_mod (x : Int) : IntKind.u16.wrap x = x % 65536 := by simp [IntKind.wrap, IntKind.bits, IntKind.signed]
theorem wf_u64 {x : Int} (h : (Lit.int .u64 x).wf = true) : 0 ≤ x ∧ x ≤ 18446744073709551615 := by
  simp [Lit.wf, IntKind.min, IntKind.max, IntKind.signed, IntKind.bits] at h; omega
theorem wf_u32 {x : Int} (h : (Lit.int .u32 x).wf = true) : 0 ≤ x ∧ x ≤ 4294967295 := by
  simp [Lit.wf, IntKind.min, IntKind.max, IntKind.signed, IntKind.bits] at h; omega
theorem wf_u16 {x : Int} (h : (Lit.int .u16 x).wf = true) : 0 ≤ x ∧ x ≤ 65535 := by
  simp [Lit.wf, IntKind.min, IntKind.max, IntKind.signed, IntKind.bits] at h; omega
theorem wf_u8 {x : Int} (h : (Lit.int .u8 x).wf = true) : 0 ≤ x ∧ x ≤ 255 := by
  simp [Lit.wf, IntKind.min, IntKind.max, IntKind.signed, IntKind.bits] at h; omega
theorem wf_i64 {x : Int} (h : (Lit.int .i64 x).wf = true) : -9223372036854775808 ≤ x ∧ x ≤ 9223372036854775807 := by
  simp [Lit.wf, IntKind.min, IntKind.max, IntKind.signed, IntKind.bits] at h; omega

/-- The number that bytes are, the lowest first. -/
def leN : List UInt8 → Nat
  | [] => 0
  | b :: l => b.toNat + 256 * leN l
theorem leN_append (a b : List UInt8) : leN (a ++ b) = leN a + 256 ^ a.length * leN b := by
  induction a with
  | nil => simp [leN]
  | cons x a ih => simp only [List.cons_append, leN, ih, List.length_cons, Nat.pow_succ]; rw [Nat.mul_add, Nat.mul_comm (256 ^ a.length) 256, Nat.mul_assoc, Nat.add_assoc]
theorem leN_lt (l : List UInt8) : leN l < 256 ^ l.length := by
  induction l with
  | nil => simp [leN]
  | cons x l ih => simp only [leN, List.length_cons, Nat.pow_succ]; have := x.toNat_lt; omega
/-- The lowest so many bytes of a number. -/
def ofN : Nat → Nat → List UInt8
  | 0, _ => []
  | c + 1, n => UInt8.ofNat (n % 256) :: ofN c (n / 256)
theorem ofN_length (c n : Nat) : (ofN c n).length = c := by
  induction c generalizing n with
  | zero => rfl
  | succ c ih => simp [ofN, ih]
theorem leN_ofN (c n : Nat) : leN (ofN c n) = n % 256 ^ c := by
  induction c generalizing n with
  | zero => simp [ofN, leN, Nat.mod_one]
  | succ c ih =>
    simp only [ofN, leN, ih]
    rw [Nat.pow_succ, Nat.mul_comm (256 ^ c) 256, Nat.mod_mul]
    have : (UInt8.ofNat (n % 256)).toNat = n % 256 := by simp
    rw [this]
theorem ofN_mod (c n : Nat) : ofN c (n % 256 ^ c) = ofN c n := by
  induction c generalizing n with
  | zero => rfl
  | succ c ih =>
    simp only [ofN]
    have h1 : n % 256 ^ (c + 1) % 256 = n % 256 := Nat.mod_mod_of_dvd _ ⟨256 ^ c, by rw [Nat.pow_succ, Nat.mul_comm]⟩
    have h2 : n % 256 ^ (c + 1) / 256 = n / 256 % 256 ^ c := by
      rw [Nat.pow_succ, Nat.mul_comm (256 ^ c) 256, Nat.mod_mul]
      omega
    rw [h1, h2, ih]
theorem ofN_get (c n i : Nat) (h : i < c) : (ofN c n)[i]? = some (UInt8.ofNat (n / 256 ^ i % 256)) := by
  induction c generalizing n i with
  | zero => omega
  | succ c ih =>
    cases i with
    | zero => simp [ofN]
    | succ i => simp only [ofN, List.getElem?_cons_succ]; rw [ih _ _ (by omega), Nat.pow_succ, Nat.mul_comm (256 ^ i) 256, Nat.div_div_eq_div_mul]
theorem ofN_leN (l : List UInt8) : ofN l.length (leN l) = l := by
  induction l with
  | nil => rfl
  | cons b l ih =>
    simp only [List.length_cons, ofN, leN]
    have := b.toNat_lt
    rw [show (b.toNat + 256 * leN l) % 256 = b.toNat by omega, show (b.toNat + 256 * leN l) / 256 = leN l by omega, ih]
    simp

theorem bt_nat (s : ByteArray) (i : Nat) (h : i < s.data.toList.length) : bt s (i : Int) = ((s.data.toList[i]).toNat : Int) := by
  have h' : i < s.size := by simpa using h
  have := bt_at s (i : Int) (by simpa using h')
  rw [← this]
  simp [ByteArray.getElem_eq_getElem_data]
theorem toList_length (s : ByteArray) : s.data.toList.length = s.size := by simp
theorem toL (s : ByteArray) : s.toList = s.data.toList := ByteArray.toList_eq s

/-- One byte more of a number that is put together with | and <<. -/
theorem or_shl (a b i : Nat) (hi : i < 8) (ha : a < 256 ^ i) (hb : b < 256) : Go.bits .or .u64 (a : Int) (shl .u64 (IntKind.u64.wrap (b : Int)) ((8 * i : Nat) : Int)) = ((a + 256 ^ i * b : Nat) : Int) := by
  have e : (256 : Nat) ^ i = 2 ^ (8 * i) := by rw [Nat.pow_mul]
  have hp : 256 ^ i * 256 ≤ 2 ^ 64 := by
    rw [e, show (256 : Nat) = 2 ^ 8 from rfl, ← Nat.pow_add]
    exact Nat.pow_le_pow_right (by decide) (by omega)
  have hm : 256 ^ i * b < 2 ^ 64 := Nat.lt_of_lt_of_le (Nat.mul_lt_mul_of_pos_left hb (Nat.pow_pos (by decide))) hp
  have hs : shl .u64 (IntKind.u64.wrap (b : Int)) ((8 * i : Nat) : Int) = ((256 ^ i * b : Nat) : Int) := by
    unfold shl
    rw [u64_id (x := (b : Int)) (by omega) (by omega), Int.toNat_natCast, Nat.min_eq_left (by simp [IntKind.bits]; omega)]
    have e2 : (b : Int) * 2 ^ (8 * i) = ((256 ^ i * b : Nat) : Int) := by rw [e]; simp [Int.mul_comm]
    rw [e2, u64_id (by omega) (by omega)]
  rw [hs, (bits_nat .u64 64 (by decide) (fun n h0 h1 => u64_id h0 h1) a (256 ^ i * b) (Nat.lt_of_lt_of_le ha (by omega)) hm).2, e, Nat.or_comm, Nat.add_comm,
    Nat.two_pow_add_eq_or_of_lt (by rw [← e]; exact ha)]

end Go.Proofs.Ytlfcepdaicngjaa.B

/- Bits as numbers: bytes, the lowest first; what one step of writing does. Plain Lean. -/
namespace Go.Proofs.Ytlfcepdaicngjaa.Bn
set_option linter.unusedVariables false
set_option linter.unusedSimpArgs false
open Go Go.RowKit Go.Proofs.Ytlfcepdaicngjaa.B Go.Proofs.YtlfcepdaicngjaaW.PrintWords Go.Proofs.YtlfcepdaicngjaaW.PrintLast Go.Proofs.YtlfcepdaicngjaaW.PrintMore

/-- The first c bytes of a number. -/
def byt (N c : Nat) : List Int := (ofN c N).map (fun b => (b.toNat : Int))
theorem byt_len (N c : Nat) : (byt N c).length = c := by simp [byt, ofN_length]
theorem ofN_snoc (c N : Nat) : ofN (c + 1) N = ofN c N ++ [UInt8.ofNat (N / 256 ^ c % 256)] := by
  induction c generalizing N with
  | zero => simp [ofN]
  | succ c ih => rw [ofN, ih (N / 256)]; simp only [ofN, List.cons_append]; rw [Nat.div_div_eq_div_mul, Nat.pow_succ, Nat.mul_comm 256]
theorem byt_snoc (N c : Nat) : byt N (c + 1) = byt N c ++ [((N / 256 ^ c % 256 : Nat) : Int)] := by
  unfold byt
  rw [ofN_snoc, List.map_append]
  simp
theorem byt_zero (N c : Nat) (h : N < 256 ^ c) : byt N (c + 1) = byt N c ++ [0] := by
  rw [byt_snoc, Nat.div_eq_of_lt h]; rfl
theorem byt_mod (N c : Nat) : byt (N % 256 ^ c) c = byt N c := by unfold byt; rw [ofN_mod]
theorem byt_get (N c i : Nat) (h : i < c) : (byt N c)[i]? = some ((N / 256 ^ i % 256 : Nat) : Int) := by
  unfold byt; rw [List.getElem?_map, ofN_get c N i h]; simp
theorem byt_wf (N c : Nat) : ∀ x ∈ byt N c, 0 ≤ x ∧ x ≤ 255 := by
  intro x hx
  obtain ⟨b, _, rfl⟩ := List.mem_map.1 hx
  have := b.toNat_lt
  omega
theorem pow256 (c : Nat) : (256 : Nat) ^ c = 2 ^ (8 * c) := by rw [Nat.pow_mul]
/-- q behind len bits: the last byte alone is another. -/
theorem byt_put (N len c q : Nat) (h0 : N < 2 ^ len) (h1 : 8 * c ≤ len) (h2 : 2 ^ (len - 8 * c) * q + N / 256 ^ c < 256) :
    byt (N + 2 ^ len * q) (c + 1) = (byt N (c + 1)).set c ((N / 256 ^ c + 2 ^ (len - 8 * c) * q : Nat) : Int) := by
  have e : 2 ^ len = 256 ^ c * 2 ^ (len - 8 * c) := by rw [pow256, ← Nat.pow_add]; congr 1; omega
  have e1 : (N + 2 ^ len * q) / 256 ^ c = N / 256 ^ c + 2 ^ (len - 8 * c) * q := by
    rw [e, Nat.mul_assoc, Nat.add_mul_div_left _ _ (Nat.pow_pos (by decide))]
  have e2 : byt (N + 2 ^ len * q) c = byt N c := by
    rw [← byt_mod (N + 2 ^ len * q), ← byt_mod N, e, Nat.mul_assoc, Nat.add_mul_mod_self_left]
  rw [byt_snoc, byt_snoc, e1, e2, Nat.mod_eq_of_lt (by omega)]
  have : (byt N c ++ [((N / 256 ^ c % 256 : Nat) : Int)]).set c ((N / 256 ^ c + 2 ^ (len - 8 * c) * q : Nat) : Int) = (byt N c ++ [((N / 256 ^ c % 256 : Nat) : Int)]).set (byt N c).length ((N / 256 ^ c + 2 ^ (len - 8 * c) * q : Nat) : Int) := by rw [byt_len]
  rw [this]
  simp
/-- byte(rest << last), or'ed to a byte that has last bits: k bits more. -/
theorem or_byte (b rest last n k : Nat) (hl : last < 8) (hb : b < 2 ^ last) (hr : rest < 2 ^ n) (hn : n ≤ 32) (hk : k = min (8 - last) n) :
    Go.bits .or .u8 (b : Int) (IntKind.u64.wrap ((rest : Int) * 2 ^ last) % 256) = ((b + 2 ^ last * (rest % 2 ^ k) : Nat) : Int) ∧ 2 ^ last * (rest % 2 ^ k) + b < 256 := by
  have h8 : (2 : Nat) ^ last * 2 ^ (8 - last) = 256 := by rw [← Nat.pow_add]; rw [show last + (8 - last) = 8 by omega]
  have hrest : rest < 4294967296 := Nat.lt_of_lt_of_le hr (by calc 2 ^ n ≤ 2 ^ 32 := Nat.pow_le_pow_right (by decide) hn
    _ = 4294967296 := by decide)
  have hpl : (2 : Nat) ^ last ≤ 128 := by calc 2 ^ last ≤ 2 ^ 7 := Nat.pow_le_pow_right (by decide) (by omega)
    _ = 128 := by decide
  have hm : rest * 2 ^ last < 18446744073709551616 := by
    calc rest * 2 ^ last ≤ 4294967296 * 128 := Nat.mul_le_mul (by omega) hpl
    _ < _ := by decide
  have e1 : (rest : Int) * 2 ^ last = ((rest * 2 ^ last : Nat) : Int) := by simp
  rw [e1, u64_id (by omega) (by omega)]
  have e2 : ((rest * 2 ^ last : Nat) : Int) % 256 = ((rest * 2 ^ last % 256 : Nat) : Int) := by simp
  have e3 : rest * 2 ^ last % 256 = 2 ^ last * (rest % 2 ^ (8 - last)) := by rw [← h8, Nat.mul_comm rest, Nat.mul_mod_mul_left]
  have e4 : rest % 2 ^ (8 - last) = rest % 2 ^ k := by
    rcases Nat.le_total (8 - last) n with h | h
    · rw [hk, Nat.min_eq_left h]
    · rw [hk, Nat.min_eq_right h, Nat.mod_eq_of_lt hr, Nat.mod_eq_of_lt (Nat.lt_of_lt_of_le hr (Nat.pow_le_pow_right (by decide) h))]
  rw [e2, e3, e4]
  have hq : rest % 2 ^ k < 2 ^ (8 - last) := by rw [← e4]; exact Nat.mod_lt _ (Nat.pow_pos (by decide))
  have hbnd : 2 ^ last * (rest % 2 ^ k) + b < 256 := by
    have : 2 ^ last * (rest % 2 ^ k) + 2 ^ last ≤ 2 ^ last * 2 ^ (8 - last) := by rw [← Nat.mul_succ]; exact Nat.mul_le_mul_left _ hq
    omega
  refine ⟨?_, hbnd⟩
  rw [(bits_nat .u8 8 (by decide) (fun n h0 h1 => by simp [IntKind.wrap, IntKind.bits, IntKind.signed]; omega) b (2 ^ last * (rest % 2 ^ k)) (by omega) (by omega)).2, Nat.or_comm, Nat.add_comm, Nat.two_pow_add_eq_or_of_lt hb]
/-- The low n bits. -/
theorem and_low (v n : Nat) (hv : v < 4294967296) (hn : n ≤ 32) : Go.bits .and .u64 (v : Int) (IntKind.u64.wrap (IntKind.u64.wrap (2 ^ n) - 1)) = ((v % 2 ^ n : Nat) : Int) := by
  have hp : (2 : Nat) ^ n ≤ 4294967296 := by calc 2 ^ n ≤ 2 ^ 32 := Nat.pow_le_pow_right (by decide) hn
    _ = 4294967296 := by decide
  have hp0 : 0 < (2 : Nat) ^ n := Nat.pow_pos (by decide)
  have e1 : (2 : Int) ^ n = ((2 ^ n : Nat) : Int) := by simp
  rw [e1, u64_id (x := ((2 ^ n : Nat) : Int)) (by omega) (by omega)]
  have e2 : ((2 ^ n : Nat) : Int) - 1 = ((2 ^ n - 1 : Nat) : Int) := by omega
  rw [e2, u64_id (by omega) (by omega), (bits_nat .u64 64 (by decide) (fun n h0 h1 => u64_id h0 h1) v (2 ^ n - 1) (by omega) (by omega)).1, Nat.and_two_pow_sub_one_eq_mod]
theorem and7 (x : Nat) (hx : x < 4294967296) : Go.bits .and .i64 (x : Int) 7 = ((x % 8 : Nat) : Int) := by
  have h := (bits_nat .i64 63 (by decide) (fun n h0 h1 => by simp [IntKind.wrap, IntKind.bits, IntKind.signed]; omega) x 7 (by omega) (by omega)).1
  rw [show ((7 : Nat) : Int) = 7 from rfl] at h
  rw [h, show (7 : Nat) = 2 ^ 3 - 1 from rfl, Nat.and_two_pow_sub_one_eq_mod]
theorem add_bits (N len y d k : Nat) : N + 2 ^ len * (y % 2 ^ (d + k)) = N + 2 ^ len * (y % 2 ^ d) + 2 ^ (len + d) * (y / 2 ^ d % 2 ^ k) := by
  rw [Nat.pow_add 2 d k, Nat.mod_mul, Nat.mul_add, Nat.pow_add 2 len d, Nat.mul_assoc, Nat.add_assoc]
theorem lt_bits (M m q k : Nat) (h : M < 2 ^ m) : M + 2 ^ m * (q % 2 ^ k) < 2 ^ (m + k) := by
  have hq : q % 2 ^ k < 2 ^ k := Nat.mod_lt _ (Nat.pow_pos (by decide))
  calc M + 2 ^ m * (q % 2 ^ k) < 2 ^ m + 2 ^ m * (q % 2 ^ k) := by omega
    _ = 2 ^ m * (q % 2 ^ k + 1) := by rw [Nat.mul_succ, Nat.add_comm]
    _ ≤ 2 ^ m * 2 ^ k := Nat.mul_le_mul_left _ hq
    _ = 2 ^ (m + k) := (Nat.pow_add 2 m k).symm
end Go.Proofs.Ytlfcepdaicngjaa.Bn

/- bits.Reader: Peek and Skip where nothing is wrong. Plain Lean. -/
namespace Go.Proofs.Ytlfcepdaicngjaa.Rd
set_option linter.unusedVariables false
set_option linter.unusedSimpArgs false
open Go Go.RowKit Go.Proofs.Ytlfcepdaicngjaa.P Go.Proofs.Ytlfcepdaicngjaa.B Go.Proofs.Ytlfcepdaicngjaa.Bn Go.Proofs.YtlfcepdaicngjaaW.PrintWords Go.Proofs.YtlfcepdaicngjaaW.PrintLast Go.Proofs.YtlfcepdaicngjaaW.PrintMore
/-- n bits from a place on. -/
def num (s : ByteArray) (a n : Nat) : Nat := leN s.data.toList / 2 ^ a % 2 ^ n
theorem num_lt (s : ByteArray) (a n : Nat) : num s a n < 2 ^ n := Nat.mod_lt _ (Nat.pow_pos (by decide))
theorem leN_get (l : List UInt8) (i : Nat) (h : i < l.length) : leN l / 256 ^ i % 256 = (l[i]).toNat := by
  have h1 := ofN_get l.length (leN l) i h
  rw [ofN_leN, List.getElem?_eq_getElem h] at h1
  injection h1 with h1
  rw [h1]; simp
theorem bt_le (s : ByteArray) (i : Nat) (h : i < s.size) : bt s (i : Int) = ((leN s.data.toList / 256 ^ i % 256 : Nat) : Int) := by
  rw [bt_nat s i (by simpa using h), leN_get _ _ (by simpa using h)]
theorem and7b (x : Nat) (hx : x < 4294967296) : Go.bits .and .i64 (x : Int) 7 = ((x % 8 : Nat) : Int) := and7 x hx
theorem nat_hi (x : Nat) (hx : x < 18446744073709551616) : x &&& (2 ^ 64 - (7 + 1)) = x / 8 * 8 := by
  apply Nat.eq_of_testBit_eq
  intro i
  rw [Nat.testBit_and, Nat.testBit_two_pow_sub_succ (by decide), show (7 : Nat) = 2 ^ 3 - 1 from rfl, Nat.testBit_two_pow_sub_one, show x / 8 * 8 = x / 2 ^ 3 * 2 ^ 3 from rfl, Nat.testBit_mul_two_pow, Nat.testBit_div_two_pow]
  by_cases h : i < 3
  · simp [h]; omega
  · by_cases h2 : i < 64
    · simp [h, h2, show 3 ≤ i by omega, show i - 3 + 3 = i by omega]
    · have : x.testBit i = false := Nat.testBit_lt_two_pow (Nat.lt_of_lt_of_le hx (by calc 18446744073709551616 = 2 ^ 64 := by decide
        _ ≤ 2 ^ i := Nat.pow_le_pow_right (by decide) (by omega)))
      simp [h, h2, this, show 3 ≤ i by omega, show i - 3 + 3 = i by omega]
theorem wrap_i64_small (n : Nat) (h : n < 9223372036854775808) : IntKind.i64.wrap (n : Int) = (n : Int) := by
  have e : (n : Int) % 2 ^ 64 = n := Int.emod_eq_of_lt (by omega) (by omega)
  simp only [IntKind.wrap, IntKind.bits, IntKind.signed, e]
  rw [if_neg]
  simp
  omega
theorem andNot7 (x : Nat) (h : x < 9223372036854775807) : Go.bits .andNot .i64 (x : Int) 7 = ((x / 8 * 8 : Nat) : Int) := by
  show IntKind.i64.wrap ((BitVec.ofInt 64 (x : Int) &&& ~~~BitVec.ofInt 64 7).toNat : Int) = _
  have h1 : (BitVec.ofInt 64 7).toNat = 7 := by decide
  have h2 : (BitVec.ofInt 64 (x : Int)).toNat = x := by rw [BitVec.ofInt_natCast, BitVec.toNat_ofNat]; exact Nat.mod_eq_of_lt (by omega)
  rw [BitVec.toNat_and, BitVec.toNat_not, h1, h2, show 2 ^ 64 - 1 - 7 = 2 ^ 64 - (7 + 1) by decide, nat_hi x (by omega)]
  exact wrap_i64_small _ (by omega)
/-- The low n bits, of 64. -/
theorem and_low64 (v n : Nat) (hv : v < 18446744073709551616) (hn : n ≤ 32) : Go.bits .and .u64 (v : Int) (IntKind.u64.wrap ((shl .u64 1 (n : Int)) - 1)) = ((v % 2 ^ n : Nat) : Int) := by
  have hp : (2 : Nat) ^ n ≤ 4294967296 := by calc 2 ^ n ≤ 2 ^ 32 := Nat.pow_le_pow_right (by decide) hn
    _ = 4294967296 := by decide
  have hp0 : 0 < (2 : Nat) ^ n := Nat.pow_pos (by decide)
  have e0 : shl .u64 1 (n : Int) = ((2 ^ n : Nat) : Int) := by
    unfold shl
    rw [Int.toNat_natCast, Nat.min_eq_left (by simp [IntKind.bits]; omega)]
    have e1 : (1 : Int) * (2 : Int) ^ n = ((2 ^ n : Nat) : Int) := by simp
    rw [e1, u64_id (by omega) (by omega)]
  have e2 : ((2 ^ n : Nat) : Int) - 1 = ((2 ^ n - 1 : Nat) : Int) := by omega
  rw [e0, e2, u64_id (by omega) (by omega), (bits_nat .u64 64 (by decide) (fun n h0 h1 => u64_id h0 h1) v (2 ^ n - 1) (by omega) (by omega)).1, Nat.and_two_pow_sub_one_eq_mod]
theorem shr64 (x t : Nat) (ht : t < 64) : shr .u64 (x : Int) (t : Int) = ((x / 2 ^ t : Nat) : Int) := by
  unfold shr
  rw [Int.toNat_natCast, Nat.min_eq_left (by simp [IntKind.bits]; omega)]
  simp
/-- Some bytes' bits. -/
theorem part (N a n c : Nat) (h : n + a % 8 ≤ 8 * c) : N / 256 ^ (a / 8) % 256 ^ c / 2 ^ (a % 8) % 2 ^ n = N / 2 ^ a % 2 ^ n := by
  have e1 : N / 2 ^ a = N / 256 ^ (a / 8) / 2 ^ (a % 8) := by rw [pow256, Nat.div_div_eq_div_mul, ← Nat.pow_add, show 8 * (a / 8) + a % 8 = a by omega]
  rw [e1]
  generalize N / 256 ^ (a / 8) = M
  generalize a % 8 = t at h ⊢
  rw [pow256, ← Nat.mod_mul_right_div_self, ← Nat.mod_mul_right_div_self, ← Nat.pow_add, Nat.mod_mod_of_dvd _ (Nat.pow_dvd_pow 2 (by omega))]
theorem bits_loop (s : ByteArray) (a n : Nat) (e : Int) (hs : s.size ≤ 1000000) (hn : n ≤ 32) (hin : a + n ≤ 8 * s.size) : ∀ (d k i : Nat), i + d = (n + a % 8 + 7) / 8 → d < k →
    bits_Reader_bits.l0 k n ((leN s.data.toList / 256 ^ (a / 8) % 256 ^ i : Nat) : Int) ((a / 8 : Nat) : Int) i s a e = some (((num s a n : Nat) : Int), s, (a : Int), e) := by
  have h7 := and7 a (by omega)
  intro d
  induction d with
  | zero =>
    intro k i hi hk
    obtain ⟨k, rfl⟩ : ∃ m, k = m + 1 := ⟨k - 1, by omega⟩
    have hlt : leN s.data.toList / 256 ^ (a / 8) % 256 ^ i < 18446744073709551616 := by
      refine Nat.lt_of_lt_of_le (Nat.mod_lt _ (Nat.pow_pos (by decide))) ?_
      calc 256 ^ i ≤ 256 ^ 8 := Nat.pow_le_pow_right (by decide) (by omega)
        _ = 18446744073709551616 := by decide
    have hpart := part (leN s.data.toList) a n i (by omega)
    have hnl := num_lt s a n
    have h32 : (2 : Nat) ^ n ≤ 4294967296 := by calc 2 ^ n ≤ 2 ^ 32 := Nat.pow_le_pow_right (by decide) hn
      _ = 4294967296 := by decide
    rw [bits_Reader_bits.l0, h7, wrap_id (by omega) (by omega), wrap_id (by omega) (by omega), if_neg (by omega), if_pos (by omega), if_pos (by omega)]
    unfold num at hnl ⊢
    rw [← hpart] at hnl ⊢
    generalize leN s.data.toList / 256 ^ (a / 8) % 256 ^ i = v at hlt hnl ⊢
    rw [shr64 v (a % 8) (by omega), and_low64 _ n (Nat.lt_of_le_of_lt (Nat.div_le_self _ _) hlt) hn]
    generalize v / 2 ^ (a % 8) % 2 ^ n = z at hnl ⊢
    rw [show ((z : Nat) : Int) % 4294967296 = z by omega]
  | succ d ih =>
    intro k i hi hk
    obtain ⟨k, rfl⟩ : ∃ m, k = m + 1 := ⟨k - 1, by omega⟩
    have hb := bt_le s (a / 8 + i) (by omega)
    have hb2 : leN s.data.toList / 256 ^ (a / 8 + i) % 256 < 256 := Nat.mod_lt _ (by decide)
    rw [bits_Reader_bits.l0, h7, wrap_id (x := (i : Int) * 8) (by omega) (by omega), wrap_id (x := (n : Int) + ((a % 8 : Nat) : Int)) (by omega) (by omega), if_pos (by omega),
      wrap_id (x := ((a / 8 : Nat) : Int) + (i : Int)) (by omega) (by omega), if_pos (by omega), if_pos (by omega), wrap_id (x := 8 * (i : Int)) (by omega) (by omega), if_pos (by omega), wrap_id (x := (i : Int) + 1) (by omega) (by omega),
      show ((a / 8 : Nat) : Int) + (i : Int) = ((a / 8 + i : Nat) : Int) by omega, hb, show 8 * (i : Int) = ((8 * i : Nat) : Int) by omega,
      or_shl _ _ i (by omega) (Nat.mod_lt _ (Nat.pow_pos (by decide))) hb2]
    have e3 : leN s.data.toList / 256 ^ (a / 8) % 256 ^ i + 256 ^ i * (leN s.data.toList / 256 ^ (a / 8 + i) % 256) = leN s.data.toList / 256 ^ (a / 8) % 256 ^ (i + 1) := by
      rw [Nat.pow_succ, Nat.mod_mul, Nat.pow_add, ← Nat.div_div_eq_div_mul]
    rw [e3]
    exact ih k (i + 1) (by omega) (by omega)
theorem bits_in (s : ByteArray) (a n : Nat) (e : Int) (hs : s.size ≤ 1000000) (hn : n ≤ 32) (hin : a + n ≤ 8 * s.size) (k : Nat) (hk : 6 < k) :
    bits_Reader_bits.f k s a e n = some (((num s a n : Nat) : Int), s, (a : Int), e) := by
  unfold bits_Reader_bits.f
  have h := bits_loop s a n e hs hn hin ((n + a % 8 + 7) / 8) k 0 (by omega) (by omega)
  rw [show (256 : Nat) ^ 0 = 1 from rfl, Nat.mod_one] at h
  rw [show ((a : Nat) : Int) / 8 = ((a / 8 : Nat) : Int) by omega]
  exact h
/-- The places a reader may be at. -/
def RPlace (s : ByteArray) (a : Int) : Prop := s.size ≤ 1000000 ∧ ∃ n : Nat, a = n ∧ n ≤ 8 * s.size
theorem left_of {s : ByteArray} {a : Int} (h : RPlace s a) : wrap64 (wrap64 (8 * (s.size : Int)) - a) = 8 * (s.size : Int) - a := by
  obtain ⟨h1, n, rfl, h2⟩ := h
  rw [wrap_id (x := 8 * (s.size : Int)) (by omega) (by omega), wrap_id (by omega) (by omega)]
theorem peek_in (s : ByteArray) (a n : Nat) (hs : s.size ≤ 1000000) (ha : a ≤ 8 * s.size) (hn : n ≤ 32) :
    bits_Reader_Peek.f 50 s a 0 n = some (((num s a (min n (8 * s.size - a)) : Nat) : Int), ((min n (8 * s.size - a) : Nat) : Int), s, (a : Int), 0) := by
  have hl := left_of (s := s) (a := (a : Int)) ⟨hs, a, rfl, ha⟩
  unfold bits_Reader_Peek.f
  rw [if_pos rfl, if_neg (by omega), decide_eq_false (by omega), show (50 : Nat) = 49 + 1 from rfl, bits_Reader_Peek.j0, if_neg (by decide)]
  unfold bits_Reader_left.f
  rw [Option.bind_some]
  dsimp only
  rw [hl]
  have hm : mn (n : Int) (8 * (s.size : Int) - (a : Int)) = ((min n (8 * s.size - a) : Nat) : Int) := by unfold mn; split <;> omega
  rw [hm, bits_in s a (min n (8 * s.size - a)) 0 hs (by omega) (by omega) 49 (by omega), Option.bind_some]
theorem skip_in (s : ByteArray) (a n : Nat) (hs : s.size ≤ 1000000) (ha : a + n ≤ 8 * s.size) : bits_Reader_Skip.f s a 0 n = some (s, ((a + n : Nat) : Int), 0) := by
  have hl := left_of (s := s) (a := (a : Int)) ⟨hs, a, rfl, by omega⟩
  unfold bits_Reader_Skip.f
  rw [if_pos rfl, if_neg (by omega)]
  unfold bits_Reader_left.f
  rw [Option.bind_some]
  dsimp only
  rw [hl, if_neg (by omega), wrap_id (by omega) (by omega), Int.natCast_add]
end Go.Proofs.Ytlfcepdaicngjaa.Rd

/- prefix.Code: Length and Sign: the walks. -/
namespace Go.Proofs.Ytlfcepdaicngjaa.Pk
set_option linter.unusedVariables false
set_option linter.unusedSimpArgs false
open Go Go.RowKit Go.Proofs.Ytlfcepdaicngjaa.P Go.Proofs.Ytlfcepdaicngjaa.MapV Go.Proofs.Ytlfcepdaicngjaa.B Go.Proofs.Ytlfcepdaicngjaa.Bn Go.Proofs.Ytlfcepdaicngjaa.Rd Go.Proofs.YtlfcepdaicngjaaW.PrintWords Go.Proofs.YtlfcepdaicngjaaW.PrintLast Go.Proofs.YtlfcepdaicngjaaW.PrintMore
set_option maxHeartbeats 4000000 in
set_option maxRecDepth 100000 in
theorem length_calls (p : Nat) (x : Int) (ls ws : List Int) (w : World) (hk : CodeOk ls ws) (hC : IsCode w p ls ws) :
    Calls Try.prog 12 #[.pointer (some ⟨p, 0, none⟩), .int .i64 x] w fun e w' => e = .returned (.int .i64 (if 0 ≤ x ∧ x < ls.length then ls.getD x.toNat 0 else 0)) ∧ Below w.heap.size w w' := by
  have HK := Aside0.mk hk
  obtain ⟨A1, c1, A2, c2, mb, hP, hA1, hA2, hM⟩ := hC
  have HA1 := Aside0.mk hA1
  have hc0 := blk_cell hP 0
  simp only [List.getElem?_toArray, List.getElem?_cons_zero, List.getElem?_cons_succ] at hc0
  clear hP hA1 hA2 hM hk
  by_cases h0 : x < 0
  · have hd0 : decide (x < 0) = true := decide_eq_true h0
    rw [if_neg (by omega)]
    go_enter Try.func12, Try.ntmps12
    go_wp2
    go_ret
    exact ⟨rfl, Below.refl _ _⟩
  have hd0 : decide (x < 0) = false := decide_eq_false h0
  by_cases h1 : (ls.length : Int) ≤ x
  · have hd1 : decide ((ls.length : Int) ≤ x) = true := decide_eq_true h1
    rw [if_neg (by omega)]
    go_enter Try.func12, Try.ntmps12
    go_wp2
    go_ret
    exact ⟨rfl, Below.refl _ _⟩
  have hd1 : decide ((ls.length : Int) ≤ x) = false := decide_eq_false h1
  rw [if_pos (by omega)]
  obtain ⟨ad, hA, hx⟩ := Kd.at_int HA1.out x (by omega) (by omega)
  cases hA
  have hg : rd ls x = ls.getD x.toNat 0 := rfl
  rw [hg] at hx
  obtain ⟨h4, h5⟩ := HK.out.at_ x.toNat (by omega)
  obtain ⟨y, hyy⟩ : ∃ y : Nat, ls.getD x.toNat 0 = (y : Int) := ⟨_, h4⟩
  rw [hyy] at hx
  rw [hyy]
  have hy15 : y ≤ 15 := by omega
  clear h4 h5 hg hyy
  have hlt : decide (x < ls.length) = true := decide_eq_true (by omega)
  go_enter Try.func12, Try.ntmps12
  go_wp2
  go_ret
  exact ⟨rfl, Below.refl _ _⟩
/-- What Sign answers at a place. -/
def SignR (ls ws : List Int) (s : ByteArray) (a : Nat) (x er : Int) (a' : Nat) : Prop :=
  let t := min (mostW ls ls.length).toNat (8 * s.size - a)
  (∃ i l, ∃ hi : i < ls.length, er = 0 ∧ x = (i : Int) ∧ 1 ≤ l ∧ l ≤ t ∧ (nat ls)[i]'(by rw [nat_len]; exact hi) = l ∧ wordN (nat ls) i = rvs (num s a t) l ∧ (∀ k, 1 ≤ k → k < l → signsG ls ws ls.length (wd (k : Int) ((rvs (num s a t) k : Nat) : Int)) = none) ∧ a' = a + l) ∨
  (x = -1 ∧ a' = a ∧ (∀ k, 1 ≤ k → k ≤ t → signsG ls ws ls.length (wd (k : Int) ((rvs (num s a t) k : Nat) : Int)) = none) ∧
    (er = 3 ∧ (t : Int) < mostW ls ls.length ∧ (∃ i, i < ls.length ∧ goesP ls ws (rvs (num s a t) t) t i) ∨ er = 10 ∧ ((t : Int) < mostW ls ls.length → ¬ ∃ i, i < ls.length ∧ goesP ls ws (rvs (num s a t) t) t i)))
theorem or_bit (n b : Nat) (hn : n < 2147483648) (hb : b < 2) : Go.bits .or .u32 ((2 * n : Nat) : Int) (b : Int) = ((2 * n + b : Nat) : Int) := by
  have h := (bits_nat .u32 32 (by decide) (fun n h0 h1 => by simp [IntKind.wrap, IntKind.bits, IntKind.signed]; omega) (2 * n) b (by omega) (by omega)).2
  rw [h, show 2 * n = 2 ^ 1 * n by omega, ← Nat.two_pow_add_eq_or_of_lt (by omega)]
theorem and1 (x : Nat) (hx : x < 4294967296) : Go.bits .and .u32 (x : Int) 1 = ((x % 2 : Nat) : Int) := by
  have h := (bits_nat .u32 32 (by decide) (fun n h0 h1 => by simp [IntKind.wrap, IntKind.bits, IntKind.signed]; omega) x 1 (by omega) (by omega)).1
  rw [show ((1 : Nat) : Int) = 1 from rfl] at h
  rw [h, Nat.and_one_is_mod]
set_option maxHeartbeats 8000000 in
set_option maxRecDepth 100000 in
theorem sign_calls (p g a : Nat) (s : ByteArray) (ls ws : List Int) (w0 w : World) (hk : CodeOk ls ws) (hC : IsCode w0 p ls ws) (hI : IsS70 w0 w g s a 0) (hB : Below w0.heap.size w0 w) (hs : s.size ≤ 1000000) (ha : a ≤ 8 * s.size) :
    Calls Try.prog 11 #[.pointer (some ⟨p, 0, none⟩), .pointer (some ⟨g, 0, none⟩)] w fun e w' => ∃ (x er : Int) (a' : Nat), e = .returned (.tuple #[.int .i64 x, .int .i64 er]) ∧ SignR ls ws s a x er a' ∧ a' ≤ 8 * s.size ∧ IsS70 w0 w' g s a' 0 ∧ Below w0.heap.size w0 w' ∧ KeepBut w w' g none := by
  have HK := Aside0.mk hk
  have HI := Aside0.mk hI
  have HB := Aside0.mk hB
  have HC := Aside0.mk hC
  have HKB := Aside0.mk (KeepBut.refl w g none)
  have hmr := mostW_range ls hk.rng ls.length (Nat.le_refl _)
  obtain ⟨m, hm⟩ : ∃ m : Nat, mostW ls ls.length = (m : Int) := ⟨(mostW ls ls.length).toNat, by omega⟩
  rw [hm] at hmr
  obtain ⟨A1, c1, A2, c2, mb, hP, hA1, hA2, hM⟩ := hC
  have HM := Aside0.mk hM
  have hc3 := blk_cell hP 3
  have hc2 := blk_cell hP 2
  simp only [List.getElem?_toArray, List.getElem?_cons_zero, List.getElem?_cons_succ] at hc3 hc2
  rw [hm] at hc3
  have HC2 := Aside0.mk hc2
  have HC3 := Aside0.mk hc3
  replace hc3 := (hB.cell (World.block_lt_of_cell? w0 _ hc3)).trans hc3
  have hpk := peek_in s a m hs ha (by omega)
  obtain ⟨t, ht⟩ : ∃ t, min m (8 * s.size - a) = t := ⟨_, rfl⟩
  rw [ht] at hpk
  obtain ⟨v, hv⟩ : ∃ v, num s a t = v := ⟨_, rfl⟩
  rw [hv] at hpk
  have hvl := num_lt s a t
  rw [hv] at hvl
  have htm : t ≤ m := by omega
  have ht2 : t ≤ 8 * s.size - a := by omega
  have hp15 : (2 : Nat) ^ t ≤ 2 ^ 15 := Nat.pow_le_pow_right (by omega) (by omega)
  have HPK := Aside0.mk hpk
  have HR : Aside0 (∀ x er a', SignR ls ws s a x er a' ↔ ((∃ i l, ∃ hi : i < ls.length, er = 0 ∧ x = (i : Int) ∧ 1 ≤ l ∧ l ≤ t ∧ (nat ls)[i]'(by rw [nat_len]; exact hi) = l ∧ wordN (nat ls) i = rvs v l ∧ (∀ k, 1 ≤ k → k < l → signsG ls ws ls.length (wd (k : Int) ((rvs v k : Nat) : Int)) = none) ∧ a' = a + l) ∨
    (x = -1 ∧ a' = a ∧ (∀ k, 1 ≤ k → k ≤ t → signsG ls ws ls.length (wd (k : Int) ((rvs v k : Nat) : Int)) = none) ∧
    (er = 3 ∧ (t : Int) < m ∧ (∃ i, i < ls.length ∧ goesP ls ws (rvs v t) t i) ∨ er = 10 ∧ ((t : Int) < m → ¬ ∃ i, i < ls.length ∧ goesP ls ws (rvs v t) t i))))) := ⟨fun x er a' => by unfold SignR; rw [hm, Int.toNat_natCast, ht]; dsimp only; rw [hv]⟩
  clear hP hA1 hA2 hM hk hpk hI hB hc2 hv ht hm
  go_enter Try.func11, Try.ntmps11
  go_wp2_with (first
    | (go_at_call 25; refine (bits_Reader_Err.calls g s (a : Int) 0 _ _ _ _ w0 _ HI.out HB.out rfl).mono ?_; rintro e w1 ⟨rfl, hi, hb, hkb⟩; have HI1 := Aside0.mk hi; have HB1 := Aside0.mk hb; have HKB1 := Aside0.mk hkb; clear hi hb hkb; replace hc3 := (HB1.out.cell (World.block_lt_of_cell? w0 _ HC3.out)).trans HC3.out)
    | (go_at_call 26; refine (bits_Reader_Peek.calls 50 g s (a : Int) 0 (m : Int) _ _ _ _ _ w0 _ HI1.out HB1.out HPK.out).mono ?_; rintro e w2 ⟨rfl, hi, hb, hkb⟩; have HI2 := Aside0.mk hi; have HB2 := Aside0.mk hb; have HKB2 := Aside0.mk (HKB1.out.trans hkb (.inl rfl)); clear hi hb hkb))
  go_loopw [8, 9] (fun v8 v9 wr => ∃ l : Nat, v9 = .int .i64 ((l + 1 : Nat) : Int) ∧ l ≤ t ∧ v8 = .int .u32 ((rvs v l : Nat) : Int) ∧ Aside0 (∀ k, 1 ≤ k → k ≤ l → signsG ls ws ls.length (wd (k : Int) ((rvs v k : Nat) : Int)) = none) ∧ Aside0 (IsS70 w0 wr g s a 0) ∧ Aside0 (Below w0.heap.size w0 wr) ∧ Aside0 (KeepBut w wr g none))
    (fun _ v9 _ => t + 2 - (intOf v9).toNat)
  case atStart => exact ⟨0, rfl, by omega, rfl, ⟨fun k h1 h2 => by omega⟩, HI2, HB2, HKB2⟩
  case round =>
    clear HI2 HB2 HKB2 HI1 HB1 HKB1 HI HB hc3
    obtain ⟨l, rfl, hl, rfl, HNO, HI, HB, HKW⟩ := hrel
    have hc3 := (HB.out.cell (World.block_lt_of_cell? w0 _ HC3.out)).trans HC3.out
    have hc2 := (HB.out.cell (World.block_lt_of_cell? w0 _ HC2.out)).trans HC2.out
    by_cases hlt : l < t
    · have hd : decide ((l : Int) + 1 ≤ (t : Int)) = true := decide_eq_true (by omega)
      have hd2 : decide (l + 1 ≤ t) = true := decide_eq_true (by omega)
      have hrl := rvs_lt v l
      have hr15 : (2 : Nat) ^ l ≤ 2 ^ 15 := Nat.pow_le_pow_right (by omega) (by omega)
      have e2 := and1 (v / 2 ^ l) (Nat.lt_of_le_of_lt (Nat.div_le_self _ _) (by omega))
      have e3 := or_bit (rvs v l) (v / 2 ^ l % 2) (by omega) (by omega)
      have e4 : 2 * rvs v l + v / 2 ^ l % 2 = rvs v (l + 1) := rfl
      have hbit : Go.bits .or .u32 (((rvs v l : Nat) : Int) * 2) (Go.bits .and .u32 ((v : Int) / 2 ^ l) 1) = ((rvs v (l + 1) : Nat) : Int) := by
        rw [e4] at e3
        rw [show (v : Int) / 2 ^ l = ((v / 2 ^ l : Nat) : Int) by simp, e2, show ((rvs v l : Nat) : Int) * 2 = ((2 * rvs v l : Nat) : Int) by omega, e3]
      clear e2 e3 e4
      have hM : OwnsV encW wr mb (signsG ls ws ls.length) := HM.out.below HB.out
      have hlook := lookup_run (t := 64) (ok := true) keyedW Try.underlying64 zeroI encW_inj key_okW hM (wd ((l + 1 : Nat) : Int) ((rvs v (l + 1) : Nat) : Int))
      have hr2 := rvs_lt v (l + 1)
      have hr3 : (2 : Nat) ^ (l + 1) ≤ 2 ^ 15 := Nat.pow_le_pow_right (by omega) (by omega)
      rw [enc_wd _ _ (by omega) (by omega) (by omega) (by omega)] at hlook
      rw [show (((l + 1 : Nat) : Int)) = (l : Int) + 1 by omega] at hlook
      obtain ⟨q, hq⟩ : ∃ q, rvs v (l + 1) = q := ⟨_, rfl⟩
      have HQ := Aside0.mk hq
      rw [hq] at hbit hlook hr2
      have hq32 : q < 4294967296 := by omega
      have hrl2 : rvs v l < 65536 := by omega
      clear hM hq hr3 hrl hr15 hr2
      cases hG : signsG ls ws ls.length (wd ((l : Int) + 1) (q : Int)) with
      | none =>
        rw [hG] at hlook
        have HG := Aside0.mk hG
        clear hG
        simp only [Option.getD_none, Option.isSome_none, if_true] at hlook
        go_wp2
        refine ⟨⟨l + 1, by go_num, by omega, by rw [HQ.out], ⟨fun k h1 h2 => ?_⟩, HI, HB, HKW⟩, by simp [intOf]; omega⟩
        by_cases hkl : k = l + 1
        · subst hkl
          rw [HQ.out]
          exact HG.out
        · exact HNO.out k h1 (by omega)
      | some u =>
        rw [hG] at hlook
        obtain ⟨i, hi, rfl, _, h1, h2⟩ := HK.out.look (l + 1) q (by omega) hq32 u (by rw [← hG]; rfl)
        clear hG
        simp only [Option.getD_some, Option.isSome_some, if_true] at hlook
        have hsk := skip_in s a (l + 1) hs (by omega)
        have HSK := Aside0.mk hsk
        clear hsk
        go_wp2_with (go_at_call 27; refine (bits_Reader_Skip.calls g s (a : Int) 0 ((l + 1 : Nat) : Int) _ _ _ w0 _ HI.out HB.out HSK.out).mono ?_; rintro e w3 ⟨rfl, hi3, hb3, hkb3⟩; have HI3 := Aside0.mk hi3; have HB3 := Aside0.mk hb3; have HKB3 := Aside0.mk (HKW.out.trans hkb3 (.inl rfl)); clear hi3 hb3 hkb3)
        go_ret2
        refine ⟨(i : Int), 0, a + (l + 1), rfl, (HR.out _ _ _).2 (.inl ⟨i, l + 1, hi, rfl, rfl, by omega, by omega, h1, h2.trans HQ.out.symm, fun k q1 q2 => HNO.out k q1 (by omega), rfl⟩), by omega, HI3.out, HB3.out, HKB3.out⟩
    · have hd : decide ((l : Int) + 1 ≤ (t : Int)) = false := decide_eq_false (by omega)
      have hd2 : decide (l + 1 ≤ t) = false := decide_eq_false (by omega)
      obtain rfl : l = t := by omega
      have hr2 := rvs_lt v l
      by_cases hm : l < m
      · have hm1 : decide (l < m) = true := decide_eq_true hm
        go_wp2_with (go_at_call 28; refine (goes_calls p (rvs v l) l ls ws _ HK.out (HC.out.below HB.out) (by omega) (by omega)).mono ?_; rintro e w3 ⟨b, rfl, hb1, hb2⟩; have HB1 := Aside0.mk hb1; have HB2 := Aside0.mk hb2; clear hb1 hb2)
        · rename_i hb
          go_ret2
          exact ⟨-1, 3, a, rfl, (HR.out _ _ _).2 (.inr ⟨rfl, rfl, HNO.out, .inl ⟨rfl, by omega, HB1.out.1 hb⟩⟩), ha, IsS70.below HI.out HB2.out, below_step HB.out HB2.out, HKW.out.trans (KeepBut.of_below HB2.out _ none) (.inl rfl)⟩
        · rename_i hb
          go_ret2
          exact ⟨-1, 10, a, rfl, (HR.out _ _ _).2 (.inr ⟨rfl, rfl, HNO.out, .inr ⟨rfl, fun _ q => by rw [HB1.out.2 q] at hb; cases hb⟩⟩), ha, IsS70.below HI.out HB2.out, below_step HB.out HB2.out, HKW.out.trans (KeepBut.of_below HB2.out _ none) (.inl rfl)⟩
      · have hm1 : decide (l < m) = false := decide_eq_false hm
        go_wp2
        go_ret2
        refine ⟨-1, 10, a, rfl, (HR.out _ _ _).2 (.inr ⟨rfl, rfl, HNO.out, .inr ⟨rfl, fun q => absurd q (by omega)⟩⟩), ha, HI.out, HB.out, HKW.out⟩
end Go.Proofs.Ytlfcepdaicngjaa.Pk

/- Bits in the other order. Plain Lean. -/
namespace Go.Proofs.Ytlfcepdaicngjaa.D3
set_option linter.unusedVariables false
set_option linter.unusedSimpArgs false
open Go Go.RowKit Go.Proofs.Ytlfcepdaicngjaa.P Go.Proofs.Ytlfcepdaicngjaa.B Go.Proofs.Ytlfcepdaicngjaa.Bn Go.Proofs.YtlfcepdaicngjaaW.PrintWords Go.Proofs.YtlfcepdaicngjaaW.PrintLast Go.Proofs.YtlfcepdaicngjaaW.PrintMore

theorem u32_mod (x : Int) : IntKind.u32.wrap x = x % 4294967296 := by simp [IntKind.wrap, IntKind.bits, IntKind.signed]
def rev (v : Nat) : Nat → Nat
  | 0 => 0
  | i + 1 => 2 * rev v i + v / 2 ^ i % 2
theorem rev_lt (v : Nat) : ∀ i, rev v i < 2 ^ i
  | 0 => by simp [rev]
  | i + 1 => by have := rev_lt v i; rw [rev, Nat.pow_succ]; omega
theorem rev_bit (v : Nat) : ∀ n j, (rev v n).testBit j = (decide (j < n) && v.testBit (n - 1 - j)) := by
  intro n
  induction n with
  | zero => intro j; simp [rev]
  | succ n ih =>
    intro j
    rw [rev]
    cases j with
    | zero =>
      rw [Nat.testBit_zero, Nat.testBit_eq_decide_div_mod_eq]
      simp
    | succ j =>
      rw [Nat.testBit_succ, show (2 * rev v n + v / 2 ^ n % 2) / 2 = rev v n by omega, ih]
      rw [show n + 1 - 1 - (j + 1) = n - 1 - j by omega]
      congr 1
      simp
theorem rev_rev (v n : Nat) : rev (rev v n) n = v % 2 ^ n := by
  apply Nat.eq_of_testBit_eq
  intro j
  rw [rev_bit, rev_bit, Nat.testBit_mod_two_pow]
  by_cases h : j < n
  · simp [h, show n - 1 - j < n by omega, show n - 1 - (n - 1 - j) = j by omega]
  · simp [h]
theorem rev_at (v n k : Nat) (h : k < n) : rev v n / 2 ^ k % 2 = v / 2 ^ (n - 1 - k) % 2 := by
  have h1 := rev_bit v n k
  rw [Nat.testBit_eq_decide_div_mod_eq, Nat.testBit_eq_decide_div_mod_eq] at h1
  simp only [h, decide_true, Bool.true_and] at h1
  have h2 := Nat.mod_two_eq_zero_or_one (rev v n / 2 ^ k)
  have h3 := Nat.mod_two_eq_zero_or_one (v / 2 ^ (n - 1 - k))
  rcases h2 with h2 | h2 <;> rcases h3 with h3 | h3 <;> simp [h2, h3] at h1 ⊢
theorem and1 (x : Nat) (hx : x < 4294967296) : Go.bits .and .u32 (x : Int) 1 = ((x % 2 : Nat) : Int) := by
  have h := (bits_nat .u32 32 (by decide) (fun n h0 h1 => by simp [IntKind.wrap, IntKind.bits, IntKind.signed]; omega) x 1 (by omega) (by omega)).1
  rw [show ((1 : Nat) : Int) = 1 from rfl] at h
  rw [h, Nat.and_one_is_mod]
theorem turn_loop (v n : Nat) (hv : v < 4294967296) (hn : n ≤ 32) : ∀ (d k i : Nat), i + d = n → d < k → bits_Turn.l0 k v n ((2 ^ (n - i) * rev v i : Nat) : Int) n i = some ((rev v n : Nat) : Int) := by
  intro d
  induction d with
  | zero =>
    intro k i h hk
    obtain ⟨k, rfl⟩ : ∃ m, k = m + 1 := ⟨k - 1, by omega⟩
    obtain rfl : i = n := by omega
    rw [bits_Turn.l0, if_neg (by omega)]
    simp
  | succ d ih =>
    intro k i h hk
    obtain ⟨k, rfl⟩ : ∃ m, k = m + 1 := ⟨k - 1, by omega⟩
    have w1 : wrap64 ((n : Int) - 1) = ((n - 1 : Nat) : Int) := by rw [wrap_id (by omega) (by omega)]; omega
    have w2 : wrap64 (((n - 1 : Nat) : Int) - (i : Int)) = ((n - 1 - i : Nat) : Int) := by rw [wrap_id (by omega) (by omega)]; omega
    rw [bits_Turn.l0, if_pos (by omega), if_pos (by omega), w1, w2, if_pos (by omega), wrap_id (by omega) (by omega)]
    have e1 : shr .u32 (v : Int) (i : Int) = ((v / 2 ^ i : Nat) : Int) := by
      unfold shr
      rw [Int.toNat_natCast, Nat.min_eq_left (by simp [IntKind.bits]; omega)]
      simp
    have hb : v / 2 ^ i < 4294967296 := Nat.lt_of_le_of_lt (Nat.div_le_self _ _) hv
    rw [e1, and1 _ hb]
    have hm : v / 2 ^ i % 2 < 2 := Nat.mod_lt _ (by decide)
    have hp : 2 ^ (n - 1 - i) ≤ 2 ^ 31 := Nat.pow_le_pow_right (by decide) (by omega)
    have e2 : shl .u32 ((v / 2 ^ i % 2 : Nat) : Int) ((n - 1 - i : Nat) : Int) = ((2 ^ (n - 1 - i) * (v / 2 ^ i % 2) : Nat) : Int) := by
      unfold shl
      rw [Int.toNat_natCast, Nat.min_eq_left (by simp [IntKind.bits]; omega)]
      have e3 : ((v / 2 ^ i % 2 : Nat) : Int) * 2 ^ (n - 1 - i) = ((2 ^ (n - 1 - i) * (v / 2 ^ i % 2) : Nat) : Int) := by rw [Nat.mul_comm]; simp
      rw [e3]
      have : 2 ^ (n - 1 - i) * (v / 2 ^ i % 2) ≤ 2 ^ 31 * 1 := Nat.mul_le_mul hp (by omega)
      rw [u32_mod]
      omega
    rw [e2]
    have hr := rev_lt v i
    have hbig : 2 ^ (n - i) * rev v i < 2 ^ 32 := by
      calc 2 ^ (n - i) * rev v i < 2 ^ (n - i) * 2 ^ i := Nat.mul_lt_mul_of_pos_left hr (Nat.pow_pos (by decide))
        _ = 2 ^ n := by rw [← Nat.pow_add]; congr 1; omega
        _ ≤ 2 ^ 32 := Nat.pow_le_pow_right (by decide) hn
    have hsm : 2 ^ (n - 1 - i) * (v / 2 ^ i % 2) < 2 ^ (n - i) := by
      have : 2 ^ (n - i) = 2 ^ (n - 1 - i) * 2 := by rw [← Nat.pow_succ]; congr 1; omega
      rw [this]
      exact Nat.mul_lt_mul_of_pos_left hm (Nat.pow_pos (by decide))
    have hsm2 : 2 ^ (n - 1 - i) * (v / 2 ^ i % 2) < 2 ^ 32 := Nat.lt_of_lt_of_le hsm (Nat.pow_le_pow_right (by decide) (by omega))
    rw [(bits_nat .u32 32 (by decide) (fun n h0 h1 => by simp [IntKind.wrap, IntKind.bits, IntKind.signed]; omega) _ _ hbig hsm2).2, ← Nat.two_pow_add_eq_or_of_lt hsm]
    have e4 : 2 ^ (n - i) * rev v i + 2 ^ (n - 1 - i) * (v / 2 ^ i % 2) = 2 ^ (n - (i + 1)) * rev v (i + 1) := by
      have : 2 ^ (n - i) = 2 ^ (n - 1 - i) * 2 := by rw [← Nat.pow_succ]; congr 1; omega
      rw [this, rev, show n - (i + 1) = n - 1 - i by omega, Nat.mul_add, Nat.mul_assoc]
    rw [e4]
    exact ih k (i + 1) (by omega) (by omega)
theorem turn_in (v n : Nat) (hv : v < 4294967296) (h1 : 1 ≤ n) (hn : n ≤ 32) : bits_Turn.f 40 v n = some ((rev v n : Nat) : Int) := by
  unfold bits_Turn.f
  rw [if_neg (by omega), show (40 : Nat) = 39 + 1 from rfl, bits_Turn.j0, if_neg (by simp; omega)]
  have h := turn_loop v n hv hn n 39 0 (by omega) (by omega)
  simpa [rev] using h
end Go.Proofs.Ytlfcepdaicngjaa.D3

/- bits.Writer: its methods on a number of so many bits. -/
namespace Go.Proofs.Ytlfcepdaicngjaa.Bw
set_option linter.unusedVariables false
set_option linter.unusedSimpArgs false
open Go Go.RowKit Go.Proofs.Ytlfcepdaicngjaa.P Go.Proofs.Ytlfcepdaicngjaa.B Go.Proofs.Ytlfcepdaicngjaa.Bn Go.Proofs.Ytlfcepdaicngjaa.Hd Go.Proofs.YtlfcepdaicngjaaW.PrintWords Go.Proofs.YtlfcepdaicngjaaW.PrintLast Go.Proofs.YtlfcepdaicngjaaW.PrintMore

/-- The writer at g has written the number N, of len bits; its row of bytes is v. -/
def IsBW (base : Nat) (W : World) (g : Nat) (v : Value) (N len : Nat) : Prop :=
  Holds base W g 38 #[v, .int .i64 ((len % 8 : Nat) : Int)] v (byt N ((len + 7) / 8)) ∧ N < 2 ^ len
theorem z5 : (Try.prog.info? 5).map (fun i => (i.zero, i.size, i.bytes)) = some (some (.int .u8 0), 1, 1) := by kernel_rfl
theorem IsBW.bytes {base g N len : Nat} {W : World} {v : Value} (h : IsBW base W g v N len) : ∃ A c, v = .slice A ((len + 7) / 8) c := by
  obtain ⟨A, c, hv, _⟩ := Kd.R_reads h.1.row
  rw [byt_len] at hv
  exact ⟨A, c, hv⟩

attribute [local go_sem] max2_int min2_int
set_option maxHeartbeats 4000000 in
set_option maxRecDepth 100000 in
theorem write_calls (base g : Nat) (v : Value) (N len x : Nat) (n : Nat) (W : World) (hI : IsBW base W g v N len) (hx : x < 4294967296) (h1 : 1 ≤ n) (h32 : n ≤ 32) (hl : len ≤ 1099511627776) :
    Calls Try.prog 29 #[.pointer (some ⟨g, 0, none⟩), .int .u32 x, .int .i64 n] W fun e W' => e = .returned (.tuple #[]) ∧ ∃ v', IsBW base W' g v' (N + 2 ^ len * (x % 2 ^ n)) (len + n) ∧ Wrote W W' g v v' := by
  have HI0 := Aside0.mk hI
  clear hI
  have hn1 : decide ((n : Int) < 1) = false := decide_eq_false (by omega)
  have hn2 : decide ((32 : Int) < (n : Int)) = false := decide_eq_false (by omega)
  have hn3 : decide (32 < n) = false := decide_eq_false (by omega)
  have hlow := and_low x n hx h32
  have hmn : x % 2 ^ n < 2 ^ n := Nat.mod_lt _ (Nat.pow_pos (by decide))
  obtain ⟨y, hy⟩ : ∃ y, x % 2 ^ n = y := ⟨_, rfl⟩
  rw [hy] at hlow hmn ⊢
  have HY := Aside0.mk hmn
  clear hmn hy
  go_enter Try.func29, Try.ntmps29
  go_wp2
  have HIW := Aside0.mk (Wrote.refl W g v)
  go_loopw [2, 6] (fun v2 v6 wr => ∃ (d r : Nat) (v1 : Value), v2 = .int .i64 r ∧ d + r = n ∧ v6 = .int .u64 ((y / 2 ^ d : Nat) : Int) ∧ Aside0 (IsBW base wr g v1 (N + 2 ^ len * (y % 2 ^ d)) (len + d)) ∧ Aside0 (Wrote W wr g v v1))
    (fun v _ _ => (intOf v).toNat)
  case atStart => exact ⟨0, n, v, rfl, by omega, by simp, ⟨by have := HI0.out; simpa [Nat.mod_one] using this⟩, HIW⟩
  case round =>
    clear hlow HI0 HIW hn1 hn2 hn3
    obtain ⟨d, r, v1, rfl, hdr, rfl, HI, HW⟩ := hrel
    by_cases hr : r = 0
    · subst hr
      have hd : d = n := by omega
      subst hd
      go_wp2
      first | go_end0 | ((try simp only [Exit.inBlock, Exit.then]); refine bodyPost_ret (results_none rfl _ _ _) rfl ?_)
      refine ⟨rfl, v1, ?_, HW.out⟩
      have h := HI.out
      rwa [Nat.mod_eq_of_lt HY.out] at h
    have hr1 : decide ((0 : Int) < (r : Int)) = true := decide_eq_true (by omega)
    have hr2 : decide (0 < r) = true := decide_eq_true (by omega)
    obtain ⟨M, hM⟩ : ∃ M, N + 2 ^ len * (y % 2 ^ d) = M := ⟨_, rfl⟩
    obtain ⟨m, hm⟩ : ∃ m, len + d = m := ⟨_, rfl⟩
    obtain ⟨q, hq⟩ : ∃ q, y / 2 ^ d = q := ⟨_, rfl⟩
    rw [hM, hm] at HI
    rw [hq]
    obtain ⟨t, ht⟩ : ∃ t, m % 8 = t := ⟨_, rfl⟩
    have HH := Aside0.mk HI.out.1
    have HN := Aside0.mk HI.out.2
    rw [ht] at HH
    have hmb : m ≤ 1099511627776 + 32 := by omega
    have hne : some g ≠ v1.ownBlock := fun e => HH.out.ne (by decide) g e.symm rfl
    have hc0 : wr.cell? ⟨g, 0, none⟩ = some v1 := (blk_cell HH.out.blk 0).trans rfl
    have hc1 : wr.cell? ⟨g, 1, none⟩ = some (.int .i64 t) := (blk_cell HH.out.blk 1).trans rfl
    go_upto_if 30 with (fail)
    go_cut [] (fun wc => Aside0 (∃ v3, Holds base wc g 38 #[v3, .int .i64 (t : Int)] v3 (byt M (m / 8 + 1)) ∧ Wrote W wc g v v3))
    case first =>
      by_cases h0 : t = 0
      · subst h0
        have e7 : (m + 7) / 8 = m / 8 := by omega
        have hrow := HH.out.row
        rw [e7] at hrow
        have HRow := Aside0.mk hrow
        have hxl : (byt M (m / 8)).length = m / 8 := byt_len _ _
        have hz : byt M (m / 8) ++ [0] = byt M (m / 8 + 1) := (byt_zero M (m / 8) (by rw [pow256]; rw [show 8 * (m / 8) = m by omega]; exact HN.out)).symm
        obtain ⟨xs, hxs⟩ : ∃ xs, byt M (m / 8) = xs := ⟨_, rfl⟩
        rw [hxs] at HRow hxl hz
        clear hrow hxs
        go_wp2_with ((with_reducible refine gate_builtin (b := .append) (xs := #[.tmp 35, .tmp 36]) rfl ?_); at_builtin; refine Kd.R_append (Kd.int .u8) (w0 := wr) base rfl (.tmp 35) (.tmp 36) 22 5 (.int .u8 0) 1 rfl Try.underlying22 z5 rfl (by decide) (by omega) v1 xs (0 : Int) [.int .u8 0] (fun k => some k = v1.ownBlock ∨ wr.heap.size ≤ k) (fun _ => False) rfl rfl ?aP (fun _ hk => hk.elim) ?aF ?aO ?aB ?aS ?aL ?_; (case aP => rfl); (case aF => exact (fun _ hk => .inr hk)); (case aO => exact Kd.R_mono HRow.out (fun _ hk => .inl hk)); (case aB => exact Below.refl _ _); (case aS => exact Nat.le_of_lt (Nat.lt_of_le_of_lt HH.out.ge HH.out.lt)); (case aL => omega); intro v6 w6 ho hb hg hat; obtain ⟨A6, c6, rfl⟩ := Kd.R_slice ho; obtain ⟨v6, hv6⟩ : ∃ v6 : Value, Value.slice A6 (xs ++ [0]).length c6 = v6 := ⟨_, rfl⟩; have hv6' := Aside0.mk hv6.symm; (try rw [hv6] at ho hat); have HO6 := Aside0.mk (Kd.R_reok rfl ho (fun k hk => hk.symm) : Kd.R (Kd.int .u8) 5 w6 base (fun k => some k = v6.ownBlock) v6 (xs ++ [0])); have HB6 := Aside0.mk (blk_grown HH.out.blk hg hne); have HW6 := Aside0.mk (HW.out.grow hg hat); have hc6 := blk_cell HB6.out 0; have hf6 := blk_frozen HB6.out 0; clear ho hb hg hat)
        go_meet
        have e6 := hv6'.out
        subst e6
        refine ⟨_, ?_, HW6.out.set 0 _⟩
        rw [← hz]
        exact Holds.turn (v := .slice A6 (xs ++ [0]).length c6) ⟨HB6.out, HH.out.ge, HO6.out⟩ 0 HO6.out (by decide)
      · have hb : ((t : Int) == 0) = false := by simp; omega
        have hb2 : (t == 0) = false := by simp; omega
        have e7 : (m + 7) / 8 = m / 8 + 1 := by omega
        go_wp2
        go_meet
        have h := HH.out
        rw [e7] at h
        exact ⟨v1, h, HW.out⟩
    case rest =>
      obtain ⟨v3, H3, W3⟩ := hcut.out
      have HW3 := Aside0.mk W3
      have hxl : (byt M (m / 8 + 1)).length = m / 8 + 1 := byt_len _ _
      have ht8 : t < 8 := by omega
      have h8c : 8 * (m / 8) + t = m := by omega
      clear hcut W3 hc0 hc1 HH
      have hbyte : ∃ bb, M / 256 ^ (m / 8) = bb ∧ bb < 2 ^ t := by
        refine ⟨_, rfl, ?_⟩
        rw [Nat.div_lt_iff_lt_mul (Nat.pow_pos (by decide)), pow256, ← Nat.pow_add, show t + 8 * (m / 8) = m by omega]
        exact HN.out
      obtain ⟨bb, hbb, hbt⟩ := hbyte
      have hqr : q < 2 ^ r := by
        rw [← hq, Nat.div_lt_iff_lt_mul (Nat.pow_pos (by decide)), ← Nat.pow_add, show r + d = n by omega]
        exact HY.out
      obtain ⟨k, hk⟩ : ∃ k, k = min (8 - t) r := ⟨_, rfl⟩
      obtain ⟨hor, hb256⟩ := or_byte bb q t r k ht8 hbt hqr (by omega) hk
      have hlast : rdOf 0 (byt M (m / 8 + 1)) ((m / 8 : Nat) : Int) = (bb : Int) := by
        unfold rdOf
        rw [List.getD_eq_getElem?_getD, Int.toNat_natCast, byt_get _ _ _ (by omega), hbb, Option.getD_some, Nat.mod_eq_of_lt (by omega)]
      have hput := byt_put M m (m / 8) (q % 2 ^ k) HN.out (by omega) (by rw [show m - 8 * (m / 8) = t by omega, hbb]; exact hb256)
      rw [show m - 8 * (m / 8) = t by omega, hbb] at hput
      obtain ⟨z, hz⟩ : ∃ z, bb + 2 ^ t * (q % 2 ^ k) = z := ⟨_, rfl⟩
      rw [hz] at hor hput
      clear hz
      have hkr : k ≤ r := by omega
      have hk1 : 1 ≤ k := by omega
      have hk8 : t + k ≤ 8 := by omega
      obtain ⟨c, hc⟩ : ∃ c, m / 8 = c := ⟨_, rfl⟩
      rw [hc] at H3 hxl h8c hlast hput
      have hmin : (if (r : Int) < 8 - (t : Int) then (r : Int) else 8 - (t : Int)) = (k : Int) := by split <;> omega
      have HPUT := Aside0.mk hput
      obtain ⟨xs, hxs⟩ : ∃ xs, byt M (c + 1) = xs := ⟨_, rfl⟩
      rw [hxs] at H3 hxl hlast HPUT
      obtain ⟨b, cap, rfl, hbb1, hbb2, _⟩ := Kd.R_form H3.row (by omega)
      have H3 := Aside0.mk H3
      clear hput hxs hbb hbt hqr hb256 hk
      have hc0 : wc.cell? ⟨g, 0, none⟩ = some (.slice (some ⟨b, 0, none⟩) xs.length cap) := (blk_cell H3.out.blk 0).trans rfl
      have hc1 : wc.cell? ⟨g, 1, none⟩ = some (.int .i64 t) := (blk_cell H3.out.blk 1).trans rfl
      obtain ⟨hcb, hfb⟩ := Kd.R_cell 0 H3.out.row ((c : Nat) : Int) (by omega) (by omega)
      rw [hlast] at hcb
      simp only [Int.toNat_natCast] at hcb hfb
      rw [hxl] at hc0
      go_upto_region 6 with (fail)
      go_region
      have H4 := Aside0.mk ((H3.out.put (by decide) c (z : Int)).drew)
      have HW4 := Aside0.mk ((HW3.out.put (b := b) rfl c (.int .u8 (z : Int))).drew)
      clear hc0 hc1 hcb hfb
      generalize (wc.setCell ⟨b, c, none⟩ (.int .u8 (z : Int))).drew = w4 at H4 HW4 ⊢
      have hc1 : w4.cell? ⟨g, 1, none⟩ = some (.int .i64 t) := (blk_cell H4.out.blk 1).trans rfl
      have hf1 := blk_frozen H4.out.blk 1
      have h7 := and7 (t + k) (by omega)
      rw [Int.natCast_add] at h7
      go_wp2
      rw [show ((t : Int) + (k : Int)) % 8 = (((t + k) % 8 : Nat) : Int) by omega]
      refine ⟨⟨d + k, r - k, _, by rw [Int.natCast_sub hkr], by omega, ?_, ⟨?_, ?_⟩, ⟨HW4.out.set 1 _⟩⟩, by simp [intOf]; omega⟩
      · rw [Nat.pow_add, ← Nat.div_div_eq_div_mul, hq]; simp
      · have h := H4.out.set (by decide) 1 (.int .i64 (((t + k) % 8 : Nat) : Int))
        rw [add_bits, hM, hq, hm]
        rw [show (len + (d + k) + 7) / 8 = c + 1 by omega, show (len + (d + k)) % 8 = (t + k) % 8 by omega, HPUT.out]
        exact h
      · rw [add_bits, hM, hq, hm, ← Nat.add_assoc, hm]
        exact lt_bits _ _ _ _ HN.out
end Go.Proofs.Ytlfcepdaicngjaa.Bw

/- bits.Writer: Len and Done, without its other methods. -/
namespace Go.Proofs.Ytlfcepdaicngjaa.Bw
set_option linter.unusedVariables false
set_option linter.unusedSimpArgs false
open Go Go.RowKit Go.Proofs.Ytlfcepdaicngjaa.P Go.Proofs.Ytlfcepdaicngjaa.B Go.Proofs.Ytlfcepdaicngjaa.Bn Go.Proofs.Ytlfcepdaicngjaa.Hd Go.Proofs.YtlfcepdaicngjaaW.PrintWords Go.Proofs.YtlfcepdaicngjaaW.PrintLast Go.Proofs.YtlfcepdaicngjaaW.PrintMore

/-- A new writer. -/
theorem IsBW.new (base : Nat) (W : World) (h : base ≤ W.heap.size) : IsBW base (W.alloc (.cells #[.slice none 0 0, .int .i64 0] 38)) W.heap.size (.slice none 0 0) 0 0 :=
  ⟨⟨heap_alloc_new W _, h, Kd.R_nil _ _ _ _ _⟩, by decide⟩
theorem IsBW.kept {base g N len : Nat} {W W1 : World} {v : Value} {S : Nat → Prop} (h : IsBW base W g v N len) (hk : Kept W W1 S) (hg : ¬ S g) (hr : ∀ k, v.ownBlock = some k → ¬ S k) : IsBW base W1 g v N len := ⟨h.1.kept hk hg hr, h.2⟩
theorem IsBW.below {base g N len : Nat} {W W1 : World} {v : Value} (h : IsBW base W g v N len) (hb : Below W.heap.size W W1) : IsBW base W1 g v N len := ⟨h.1.below hb, h.2⟩
theorem IsBW.drewN {base g N len : Nat} {W : World} {v : Value} (h : IsBW base W g v N len) (m : Nat) : IsBW base (W.drewN m) g v N len := ⟨h.1.drewN m, h.2⟩
theorem IsBW.alloc {base g N len : Nat} {W : World} {v : Value} (h : IsBW base W g v N len) (o : Obj) : IsBW base (W.alloc o) g v N len := ⟨h.1.alloc o, h.2⟩
/-- What is below the writer and its row stays. -/
theorem IsBW.under {base g N len : Nat} {w W W1 : World} {v v1 : Value} (h : IsBW base W g v N len) (hw : Wrote W W1 g v v1) (hb : Below base w W) : Below base w W1 := hw.below' h.1 hb

set_option maxHeartbeats 1000000 in
theorem len_calls (base g : Nat) (v : Value) (N len : Nat) (W : World) (hI : IsBW base W g v N len) (hl : len ≤ 2199023255552) :
    Calls Try.prog 20 #[.pointer (some ⟨g, 0, none⟩)] W fun e W' => e = .returned (.int .i64 len) ∧ Below W.heap.size W W' := by
  have HI := Aside0.mk hI
  clear hI
  obtain ⟨A, c, rfl⟩ := HI.out.bytes
  have hc0 : W.cell? ⟨g, 0, none⟩ = some (.slice A ((len + 7) / 8) c) := (blk_cell HI.out.1.blk 0).trans rfl
  have hc1 : W.cell? ⟨g, 1, none⟩ = some (.int .i64 ((len % 8 : Nat) : Int)) := (blk_cell HI.out.1.blk 1).trans rfl
  obtain ⟨q, hq⟩ : ∃ q, (len + 7) / 8 = q := ⟨_, rfl⟩
  obtain ⟨t, ht⟩ : ∃ t, len % 8 = t := ⟨_, rfl⟩
  rw [hq] at hc0
  rw [ht] at hc1
  have ht8 : t < 8 := by omega
  have h8 : 8 * q = len + (8 - t) % 8 := by omega
  have h7 : Go.bits .and .i64 (8 - (t : Int)) 7 = (((8 - t) % 8 : Nat) : Int) := by
    have h := and7 (8 - t) (by omega)
    rwa [Int.natCast_sub (by omega)] at h
  obtain ⟨p, hp⟩ : ∃ p, (8 - t) % 8 = p := ⟨_, rfl⟩
  rw [hp] at h7 h8
  clear hp
  have hp8 : p ≤ 8 := by omega
  go_enter Try.func20, Try.ntmps20
  go_upto_region 3 with (fail)
  go_quiet (fail)
  go_wp2
  go_ret
  refine ⟨?_, pw_below_drewN (Below.refl _ _) _⟩
  show Ending.returned (.int .i64 ((q : Int) * 8 - (p : Int))) = _
  rw [show (q : Int) * 8 - (p : Int) = (len : Int) by omega]
set_option maxHeartbeats 1000000 in
theorem done_calls (base g : Nat) (v : Value) (N len : Nat) (W : World) (hI : IsBW base W g v N len) (hl : len ≤ 2199023255552) :
    Calls Try.prog 18 #[.pointer (some ⟨g, 0, none⟩)] W fun e W' => e = .returned (.string ⟨(ofN ((len + 7) / 8) N).toArray⟩) ∧ Below W.heap.size W W' := by
  have HI := Aside0.mk hI
  clear hI
  obtain ⟨A, c, hv, hlc, hC⟩ := Kd.R_reads HI.out.1.row
  subst hv
  have hstr := Kd.C_string (P := Try.prog) (c := c) Try.underlying22 Try.underlying5 (dst := 9) Try.underlying9 hC
  have hc0 : W.cell? ⟨g, 0, none⟩ = some (.slice A (byt N ((len + 7) / 8)).length c) := (blk_cell HI.out.1.blk 0).trans rfl
  have e : strOfNums (byt N ((len + 7) / 8)) = ⟨(ofN ((len + 7) / 8) N).toArray⟩ := by
    unfold strOfNums byt
    rw [List.map_map]
    congr 2
    rw [show (fun n : Int => UInt8.ofNat n.toNat) ∘ (fun b : UInt8 => (b.toNat : Int)) = id from by funext b; simp, List.map_id]
  rw [e] at hstr
  obtain ⟨xs, hxs⟩ : ∃ xs, byt N ((len + 7) / 8) = xs := ⟨_, rfl⟩
  rw [hxs] at hstr hc0
  clear hC hlc hxs e
  go_enter Try.func18, Try.ntmps18
  go_wp2
  go_ret
  exact ⟨rfl, Below.refl _ _⟩
end Go.Proofs.Ytlfcepdaicngjaa.Bw

/- prefix.Code: Put: the walk. -/
namespace Go.Proofs.Ytlfcepdaicngjaa.Pk
set_option linter.unusedVariables false
set_option linter.unusedSimpArgs false
open Go Go.RowKit Go.Proofs.Ytlfcepdaicngjaa.P Go.Proofs.Ytlfcepdaicngjaa.MapV Go.Proofs.Ytlfcepdaicngjaa.B Go.Proofs.Ytlfcepdaicngjaa.Bn Go.Proofs.Ytlfcepdaicngjaa.Hd Go.Proofs.Ytlfcepdaicngjaa.Bw Go.Proofs.Ytlfcepdaicngjaa.D3 Go.Proofs.YtlfcepdaicngjaaW.PrintWords Go.Proofs.YtlfcepdaicngjaaW.PrintLast Go.Proofs.YtlfcepdaicngjaaW.PrintMore
theorem rev_rvs (v : Nat) : ∀ n, rev v n = rvs v n
  | 0 => rfl
  | n + 1 => by rw [rev, rvs, rev_rvs v n]
theorem rvs_rvs (v n : Nat) (h : v < 2 ^ n) : rvs (rvs v n) n = v := by
  have := rev_rev v n
  rw [rev_rvs, rev_rvs, Nat.mod_eq_of_lt h] at this
  exact this
theorem rvs_congr (v u : Nat) : ∀ n, v % 2 ^ n = u % 2 ^ n → rvs v n = rvs u n
  | 0, _ => rfl
  | n + 1, h => by
    rw [Nat.pow_succ, Nat.mod_mul, Nat.mod_mul] at h
    have h1 : v % 2 ^ n < 2 ^ n := Nat.mod_lt _ (Nat.pow_pos (by decide))
    have h2 : u % 2 ^ n < 2 ^ n := Nat.mod_lt _ (Nat.pow_pos (by decide))
    have e1 : v % 2 ^ n = u % 2 ^ n := by
      have := congrArg (fun z => z % 2 ^ n) h
      simpa [Nat.add_mul_mod_self_left] using this
    have e2 : v / 2 ^ n % 2 = u / 2 ^ n % 2 := by
      rw [e1] at h
      exact Nat.eq_of_mul_eq_mul_left (Nat.pow_pos (by decide)) (Nat.add_left_cancel h)
    rw [rvs, rvs, rvs_congr v u n e1, e2]
/-- A sign that has no word. -/
theorem put_none (p g : Nat) (x : Int) (ls ws : List Int) (w : World) (hk : CodeOk ls ws) (hC : IsCode w p ls ws) (hx : x < 0 ∨ (ls.length : Int) ≤ x ∨ ls.getD x.toNat 0 = 0) :
    Calls Try.prog 13 #[.pointer (some ⟨p, 0, none⟩), .pointer (some ⟨g, 0, none⟩), .int .i64 x] w fun e w' => e = .returned (.int .i64 2) ∧ Below w.heap.size w w' := by
  have HK := Aside0.mk hk
  have HC := Aside0.mk hC
  have HE := Aside0.mk (show (if 0 ≤ x ∧ x < ls.length then ls.getD x.toNat 0 else 0) = 0 by split <;> omega)
  clear hk hC hx
  go_enter Try.func13, Try.ntmps13
  go_wp2_with (go_at_call 12; refine (length_calls p x ls ws _ HK.out HC.out).mono ?_; rintro e w1 ⟨rfl, hb⟩; rw [HE.out]; have HB := Aside0.mk hb; clear hb)
  go_ret
  exact ⟨rfl, HB.out⟩
set_option maxHeartbeats 4000000 in
set_option maxRecDepth 100000 in
/-- A sign that has one. -/
theorem put_calls (p base g k : Nat) (v : Value) (N len : Nat) (ls ws : List Int) (w0 w : World) (hk : CodeOk ls ws) (hC : IsCode w0 p ls ws) (hB : Below w0.heap.size w0 w) (hi : k < ls.length) (hp : 0 < (nat ls)[k]'(by rw [nat_len]; exact hi))
    (hI : IsBW base w g v N len) (hb : w0.heap.size ≤ base) (hl : len ≤ 1099511627776) :
    Calls Try.prog 13 #[.pointer (some ⟨p, 0, none⟩), .pointer (some ⟨g, 0, none⟩), .int .i64 (k : Int)] w fun e w' => e = .returned (.int .i64 0) ∧ ∃ v', IsBW base w' g v' (N + 2 ^ len * rvs (wordN (nat ls) k) ((nat ls)[k]'(by rw [nat_len]; exact hi))) (len + (nat ls)[k]'(by rw [nat_len]; exact hi)) ∧ Wrote w w' g v v' := by
  obtain ⟨h1, h2⟩ := hk.at_ k hi
  obtain ⟨h3, h4, h5⟩ := hk.word k hi hp
  obtain ⟨n, hn⟩ : ∃ n, (nat ls)[k]'(by rw [nat_len]; exact hi) = n := ⟨_, rfl⟩
  obtain ⟨y, hy⟩ : ∃ y, wordN (nat ls) k = y := ⟨_, rfl⟩
  rw [hn] at h1 h2 h4 hp ⊢
  rw [hy] at h3 h4 h5 ⊢
  clear hn hy
  have hwl := hk.len
  have hkl := hk.few
  have HK := Aside0.mk hk
  have HC := Aside0.mk (hC.below hB)
  have HI := Aside0.mk hI
  obtain ⟨A1, c1, A2, c2, mb, hP, hA1, hA2, hM⟩ := HC.out
  have hc1 := blk_cell hP 1
  simp only [List.getElem?_toArray, List.getElem?_cons_zero, List.getElem?_cons_succ] at hc1
  obtain ⟨ad, hA, hx⟩ := Kd.at_int hA2 (k : Int) (by omega) (by omega)
  cases hA
  have hg : rd ws (k : Int) = ws.getD k 0 := by unfold rd; rw [Int.toNat_natCast]
  rw [hg, h3] at hx
  simp only [Int.toNat_natCast] at hx
  have HX := Aside0.mk hx
  have HC1 := Aside0.mk hc1
  have HE := Aside0.mk (show (if 0 ≤ (k : Int) ∧ (k : Int) < ls.length then ls.getD (k : Int).toNat 0 else 0) = (n : Int) by rw [if_pos (by omega), Int.toNat_natCast, h1])
  have hn0 : ((n : Int) == 0) = false := by simp; omega
  have hn0' : (n == 0) = false := by simp; omega
  have hd : decide (k < ws.length) = true := decide_eq_true (by omega)
  have hd2 : decide (k < ls.length) = true := decide_eq_true (by omega)
  have HT := Aside0.mk (turn_in y n (by omega) (by omega) (by omega))
  have hrl := rvs_lt y n
  have h215 : (2 : Nat) ^ n ≤ 2 ^ 15 := Nat.pow_le_pow_right (by omega) h2
  rw [rev_rvs] at HT
  obtain ⟨z, hz⟩ : ∃ z, rvs y n = z := ⟨_, rfl⟩
  rw [hz] at HT hrl ⊢
  have hz32 : z < 4294967296 := by omega
  have HM := Aside0.mk (Nat.mod_eq_of_lt hrl)
  clear hP hA1 hA2 hM hk hC hI hx hc1 hg h1 h3 hrl h215 hz
  go_enter Try.func13, Try.ntmps13
  go_wp2_with (first
    | (go_at_call 12; refine (length_calls p (k : Int) ls ws _ HK.out HC.out).mono ?_; rintro e w1 ⟨rfl, hb1⟩; rw [HE.out]; have HB1 := Aside0.mk hb1; have hc1 := (hb1.cell (World.block_lt_of_cell? w _ HC1.out)).trans HC1.out; have hx := (hb1.cell (World.block_lt_of_cell? w _ HX.out)).trans HX.out; clear hb1)
    | (go_at_call 30; refine (bits_Turn.calls 40 _ _ _ _ HT.out).mono ?_; rintro e w2 ⟨rfl, ⟨nd, rfl⟩⟩)
    | (go_at_call 29; refine (write_calls base g v N len z n _ ((HI.out.below HB1.out).drewN nd) hz32 (by omega) (by omega) hl).mono ?_; rintro e w3 ⟨rfl, v', hi3, hw3⟩; have HI3 := Aside0.mk hi3; have HW3 := Aside0.mk hw3; clear hi3 hw3))
  go_ret
  have h := HI3.out
  rw [HM.out] at h
  refine ⟨rfl, v', h, ?_⟩
  exact ((Wrote.refl w g v).quiet (pw_below_drewN HB1.out nd)).trans HW3.out
end Go.Proofs.Ytlfcepdaicngjaa.Pk

/- Plain: what Sign answers of a whole code. -/
namespace Go.Proofs.Ytlfcepdaicngjaa.Pk
set_option linter.unusedVariables false
set_option linter.unusedSimpArgs false
open Go Go.RowKit Go.Proofs.Ytlfcepdaicngjaa.P Go.Proofs.Ytlfcepdaicngjaa.MapV Go.Proofs.Ytlfcepdaicngjaa.B Go.Proofs.Ytlfcepdaicngjaa.Bn Go.Proofs.Ytlfcepdaicngjaa.Rd Go.Proofs.YtlfcepdaicngjaaW.PrintWords Go.Proofs.YtlfcepdaicngjaaW.PrintLast Go.Proofs.YtlfcepdaicngjaaW.PrintMore
theorem whole_sign (ls ws : List Int) (s : ByteArray) (a : Nat) (x er : Int) (a' : Nat) (hk : CodeOk ls ws) (hw : fillN (nat ls) = 32768) (ha : a ≤ 8 * s.size) (h : SignR ls ws s a x er a') :
    (er = 0 ∧ 0 ≤ x ∧ x < ls.length ∧ ls.getD x.toNat 0 = (a' : Int) - (a : Int) ∧ a < a') ∨ (er = 3 ∧ x = -1 ∧ 8 * s.size - a < 15 ∧ a' = a) := by
  have hmr := mostW_range ls hk.rng ls.length (Nat.le_refl _)
  obtain ⟨t, ht⟩ : ∃ t, min (mostW ls ls.length).toNat (8 * s.size - a) = t := ⟨_, rfl⟩
  unfold SignR at h
  rw [ht] at h
  dsimp only at h
  rcases h with ⟨i, l, hi, rfl, rfl, h1, h2, h3, h4, h5, rfl⟩ | ⟨rfl, rfl, hno, h⟩
  · left
    have h6 := (hk.at_ i hi).1
    rw [h3] at h6
    refine ⟨rfl, by omega, by omega, ?_, by omega⟩
    rw [Int.toNat_natCast, h6]
    omega
  · right
    obtain ⟨k1, i, hi, k2, k3⟩ := hk.whole hw (num s a' t) t (by omega) hno
    have hg : ∃ i, i < ls.length ∧ goesP ls ws (rvs (num s a' t) t) t i := by
      obtain ⟨e1, e2⟩ := hk.at_ i hi
      obtain ⟨e3, e4, e5⟩ := hk.word i hi (by omega)
      refine ⟨i, hi, by rw [e1]; omega, ?_⟩
      rw [e1, e3, Int.toNat_natCast, Int.toNat_natCast]
      exact k3
    rcases h with ⟨rfl, h1, h2⟩ | ⟨rfl, h1⟩
    · exact ⟨rfl, rfl, by omega, rfl⟩
    · exact absurd hg (h1 k1)
end Go.Proofs.Ytlfcepdaicngjaa.Pk

/- Plain: words one behind another, and what Sign answers of them. -/
namespace Go.Proofs.Ytlfcepdaicngjaa.Pk
set_option linter.unusedVariables false
set_option linter.unusedSimpArgs false
open Go Go.RowKit Go.Proofs.Ytlfcepdaicngjaa.P Go.Proofs.Ytlfcepdaicngjaa.MapV Go.Proofs.Ytlfcepdaicngjaa.B Go.Proofs.Ytlfcepdaicngjaa.Bn Go.Proofs.Ytlfcepdaicngjaa.Rd Go.Proofs.YtlfcepdaicngjaaW.PrintWords Go.Proofs.YtlfcepdaicngjaaW.PrintLast Go.Proofs.YtlfcepdaicngjaaW.PrintMore
/-- Numbers of some bits each, one behind another: their number, and how many bits. -/
def valB : List (Nat × Nat) → Nat
  | [] => 0
  | p :: l => p.1 + 2 ^ p.2 * valB l
def totB (l : List (Nat × Nat)) : Nat := (l.map (·.2)).sum
theorem totB_snoc (l : List (Nat × Nat)) (p : Nat × Nat) : totB (l ++ [p]) = totB l + p.2 := by simp [totB]
theorem valB_snoc (p : Nat × Nat) : ∀ l : List (Nat × Nat), valB (l ++ [p]) = valB l + 2 ^ totB l * p.1
  | [] => by simp [valB, totB]
  | q :: l => by
    rw [List.cons_append, valB, valB, valB_snoc p l]
    have : totB (q :: l) = q.2 + totB l := by simp [totB]
    rw [this, Nat.pow_add, Nat.mul_add, Nat.mul_assoc, Nat.add_assoc]
theorem valB_drop : ∀ (l : List (Nat × Nat)) (i : Nat), (∀ p ∈ l, p.1 < 2 ^ p.2) → valB l / 2 ^ totB (l.take i) = valB (l.drop i)
  | l, 0, _ => by simp [totB]
  | [], i + 1, _ => by simp [totB, valB]
  | q :: l, i + 1, h => by
    have hq := h q (by simp)
    have ih := valB_drop l i (fun p hp => h p (by simp [hp]))
    have : totB ((q :: l).take (i + 1)) = q.2 + totB (l.take i) := by simp [totB]
    rw [this, valB, Nat.pow_add, ← Nat.div_div_eq_div_mul, Nat.add_mul_div_left _ _ (Nat.pow_pos (by decide)), Nat.div_eq_of_lt hq, Nat.zero_add, ih, List.drop_succ_cons]
theorem valB_at (l : List (Nat × Nat)) (h : ∀ p ∈ l, p.1 < 2 ^ p.2) (i : Nat) (hi : i < l.length) : valB l / 2 ^ totB (l.take i) % 2 ^ l[i].2 = l[i].1 := by
  rw [valB_drop l i h, List.drop_eq_getElem_cons hi, valB, Nat.add_mul_mod_self_left, Nat.mod_eq_of_lt (h _ (List.getElem_mem hi))]
theorem valB_lt : ∀ (l : List (Nat × Nat)), (∀ p ∈ l, p.1 < 2 ^ p.2) → valB l < 2 ^ totB l
  | [], _ => by simp [valB, totB]
  | q :: l, h => by
    have hq := h q (by simp)
    have ih := valB_lt l (fun p hp => h p (by simp [hp]))
    have : totB (q :: l) = q.2 + totB l := by simp [totB]
    rw [this, valB, Nat.pow_add]
    calc q.1 + 2 ^ q.2 * valB l < 2 ^ q.2 + 2 ^ q.2 * valB l := by omega
      _ = 2 ^ q.2 * (valB l + 1) := by rw [Nat.mul_add, Nat.mul_one, Nat.add_comm]
      _ ≤ 2 ^ q.2 * 2 ^ totB l := Nat.mul_le_mul_left _ ih
theorem totB_take : ∀ (l : List (Nat × Nat)) (i : Nat), totB (l.take i) ≤ totB l
  | l, 0 => by simp [totB]
  | [], i + 1 => by simp [totB]
  | q :: l, i + 1 => by
    have ih := totB_take l i
    simp [totB] at ih ⊢
    exact ih
theorem totB_succ (l : List (Nat × Nat)) (i : Nat) (hi : i < l.length) : totB (l.take (i + 1)) = totB (l.take i) + l[i].2 := by
  rw [List.take_succ_eq_append_getElem hi, totB_snoc]
theorem totB_le : ∀ (l : List (Nat × Nat)), (∀ p ∈ l, p.2 ≤ 15) → totB l ≤ 15 * l.length
  | [], _ => by simp [totB]
  | q :: l, h => by
    have hq := h q (by simp)
    have ih := totB_le l (fun p hp => h p (by simp [hp]))
    have : totB (q :: l) = q.2 + totB l := by simp [totB]
    rw [this, List.length_cons]
    omega
/-- The bits of a sign's word. -/
def wb (L : List Nat) (k : Nat) : Nat × Nat := (rvs (wordN L k) (L.getD k 0), L.getD k 0)
theorem wb_lt (L : List Nat) (k : Nat) : (wb L k).1 < 2 ^ (wb L k).2 := rvs_lt _ _
/-- The text that a writer has written. -/
def txtB (N len : Nat) : ByteArray := ⟨(ofN ((len + 7) / 8) N).toArray⟩
theorem txtB_size (N len : Nat) : (txtB N len).size = (len + 7) / 8 := by unfold txtB; simp [ByteArray.size, ofN_length]
theorem txtB_leN (N len : Nat) (h : N < 2 ^ len) : leN (txtB N len).data.toList = N := by
  unfold txtB
  rw [List.toList_toArray, leN_ofN, pow256]
  exact Nat.mod_eq_of_lt (Nat.lt_of_lt_of_le h (Nat.pow_le_pow_right (by decide) (by omega)))
/-- Where a word stands, its sign is told. -/
theorem sign_back (ls ws : List Int) (s : ByteArray) (a k : Nat) (x er : Int) (a' : Nat) (hk : CodeOk ls ws) (hi : k < ls.length) (hp : 0 < (nat ls)[k]'(by rw [nat_len]; exact hi))
    (ha : a + (nat ls)[k]'(by rw [nat_len]; exact hi) ≤ 8 * s.size) (hn : num s a ((nat ls)[k]'(by rw [nat_len]; exact hi)) = rvs (wordN (nat ls) k) ((nat ls)[k]'(by rw [nat_len]; exact hi))) (h : SignR ls ws s a x er a') :
    er = 0 ∧ x = (k : Int) ∧ a' = a + (nat ls)[k]'(by rw [nat_len]; exact hi) := by
  have hmr := mostW_range ls hk.rng ls.length (Nat.le_refl _)
  have hmk := hk.most k hi
  obtain ⟨h6, h7, h8⟩ := hk.word k hi hp
  have h15 := (hk.at_ k hi).2
  have hik : k < (nat ls).length := by rw [nat_len]; exact hi
  obtain ⟨t, ht⟩ : ∃ t, min (mostW ls ls.length).toNat (8 * s.size - a) = t := ⟨_, rfl⟩
  have htk : (nat ls)[k] ≤ t := by omega
  have hkey : rvs (num s a t) (nat ls)[k] = wordN (nat ls) k := by
    rw [← rvs_rvs (wordN (nat ls) k) (nat ls)[k] h7, ← hn]
    apply rvs_congr
    unfold num
    rw [Nat.mod_mod_of_dvd _ (Nat.pow_dvd_pow 2 htk), Nat.mod_mod]
  have hpre : ∀ l, l ≤ (nat ls)[k] → rvs (num s a t) l = wordN (nat ls) k / 2 ^ ((nat ls)[k] - l) := by
    intro l hl
    have := rvs_pre (num s a t) l ((nat ls)[k] - l)
    rw [show l + ((nat ls)[k] - l) = (nat ls)[k] by omega, hkey] at this
    exact this.symm
  have hhas := hk.has k hi hp
  unfold SignR at h
  rw [ht] at h
  dsimp only at h
  rcases h with ⟨i, l, hil, rfl, rfl, h1, h2, h3, h4, h5, rfl⟩ | ⟨rfl, rfl, hno, h⟩
  · have hil' : i < (nat ls).length := by rw [nat_len]; exact hil
    rcases Nat.lt_trichotomy l (nat ls)[k] with hlt | heq | hgt
    · have h9 := hpre l (by omega)
      rw [h9] at h4
      exact absurd (by rw [h3]; exact h4.symm) (word_prefix (nat ls) hk.fit i k hil' hik (by omega) (by omega) h15)
    · rw [heq, hkey] at h4
      have := word_inj (nat ls) i k hil' hik (by omega) h4
      subst this
      exact ⟨rfl, rfl, by omega⟩
    · have h9 := h5 (nat ls)[k] (by omega) hgt
      rw [hkey, hhas] at h9
      cases h9
  · have h9 := hno (nat ls)[k] (by omega) htk
    rw [hkey, hhas] at h9
    cases h9
end Go.Proofs.Ytlfcepdaicngjaa.Pk

/- prefix.New at any lengths: one contract. -/
namespace Go.Proofs.Ytlfcepdaicngjaa.Pk
set_option linter.unusedVariables false
set_option linter.unusedSimpArgs false
open Go Go.RowKit Go.Proofs.Ytlfcepdaicngjaa.P Go.Proofs.YtlfcepdaicngjaaW.PrintWords Go.Proofs.YtlfcepdaicngjaaW.PrintLast Go.Proofs.YtlfcepdaicngjaaW.PrintMore
theorem new_says (A0 : Option Addr) (c0 : Nat) (l0 : List Int) (o : Bool) (w : World) (hr0 : Kd.C (Kd.int .u8) w A0 l0.length l0) (hc0 : l0.length ≤ c0) (hu : ∀ x ∈ l0, 0 ≤ x) :
    Calls Try.prog 8 #[.slice A0 l0.length c0, .bool o] w fun e w' => Below w.heap.size w w' ∧
      ((∃ r, r ≠ 0 ∧ e = .returned (.tuple #[.pointer none, .int .i64 r])) ∨
       (∃ p n, w.heap.size ≤ p ∧ prefix_Fill.f 5000 l0 = some (n, 0) ∧ n ≤ 32768 ∧ okW l0 = true ∧ (32768 ≤ n ∨ o = true ∧ prefix_few.f 5000 l0 = some true) ∧ e = .returned (.tuple #[.pointer (some ⟨p, 0, none⟩), .int .i64 0]) ∧ IsCode w' p l0 (wordsW l0).2)) := by
  obtain ⟨n, e, hF, hW⟩ := words_total l0 hu
  by_cases he : e = 0
  · subst he
    by_cases hn : n > 32768
    · rw [if_pos rfl, if_pos hn] at hW
      exact (new_bad A0 c0 l0 _ _ o w hr0 hc0 hW (by decide)).mono fun x w' ⟨h1, h2⟩ => ⟨h2, .inl ⟨10, by decide, h1⟩⟩
    · rw [if_pos rfl, if_neg hn] at hW
      have hok := fill_okW l0 n hu hF
      obtain ⟨hlen, hall⟩ : l0.length ≤ 4096 ∧ ∀ x ∈ l0, 0 ≤ x ∧ x ≤ 15 := by simpa [okW] using hok
      obtain ⟨b, hb⟩ := few_total l0 hlen
      by_cases h : 32768 ≤ n ∨ n < 32768 ∧ o = true ∧ prefix_few.f 5000 l0 = some true
      · exact (new_ok A0 c0 l0 _ n o w hr0 hc0 hW hF hlen (wordsW_length l0) hall (wordsW_B32 l0) h).mono fun x w' ⟨p, h1, h2, h3, h4⟩ => ⟨h4, .inr ⟨p, n, h1, hF, by omega, hok, h.imp id (fun q => q.2), h2, h3⟩⟩
      · have hn2 : n < 32768 := by
          rcases Int.lt_or_le n 32768 with q | q
          · exact q
          · exact absurd (.inl q) h
        refine (new_shut A0 c0 l0 _ n o w hr0 hc0 hW hF hn2 ?_).mono fun x w' ⟨h1, h2⟩ => ⟨h2, .inl ⟨10, by decide, h1⟩⟩
        cases o with
        | false => exact .inl rfl
        | true =>
          cases b with
          | false => exact .inr ⟨rfl, hb⟩
          | true => exact absurd (.inr ⟨hn2, rfl, hb⟩) h
  · rw [if_neg he] at hW
    exact (new_bad A0 c0 l0 _ e o w hr0 hc0 hW he).mono fun x w' ⟨h1, h2⟩ => ⟨h2, .inl ⟨e, he, h1⟩⟩
end Go.Proofs.Ytlfcepdaicngjaa.Pk

/- What the data of a law's argument say of the memory: for any type that is made of whole numbers, bools, strings, structs and slices. -/
namespace Go.Proofs.Ytlfcepdaicngjaa.Opens
set_option linter.unusedVariables false
set_option linter.unusedSimpArgs false
open Go Go.RowKit Go.Proofs.YtlfcepdaicngjaaW.PrintWords Go.Proofs.YtlfcepdaicngjaaW.PrintLast Go.Proofs.YtlfcepdaicngjaaW.PrintMore
section
variable {P : Program}
/-- Whatever reads as data of type t says an element of kind d. -/
structure Opens {α : Type} (P : Program) (t : TypeId) (d : Kd α) (ok : α → Prop) : Prop where
  size : P.cellsOf t = d.sz
  get : ∀ {H : Type} {enc : TypeId × Value → H} {w : World} {base : Nat} {spare : Nat → Bool} {held : Bool} {fuel : Nat} {cs : List Value} {x : DataW H × List MemPlace},
    DataW.trod enc P w base spare held fuel t cs = some x → ∃ a, d.K w a cs ∧ ok a
theorem Opens.int {t : TypeId} {k : IntKind} (hu : P.underlying t = some (.int k)) (hs : P.cellsOf t = 1) : Opens P t (Kd.int k) (fun n => (Lit.int k n).wf = true) :=
  ⟨hs, fun h => by obtain ⟨n, rfl, _, hw⟩ := DataW.trod_int hu h; exact ⟨n, rfl, hw⟩⟩
theorem Opens.bool {t : TypeId} (hu : P.underlying t = some .bool) (hs : P.cellsOf t = 1) : Opens P t Kd.bool (fun _ => True) :=
  ⟨hs, fun h => by obtain ⟨b, rfl, _⟩ := DataW.trod_bool hu h; exact ⟨b, rfl, trivial⟩⟩
theorem Opens.string {t : TypeId} (hu : P.underlying t = some .string) (hs : P.cellsOf t = 1) : Opens P t Kd.string (fun s => s.size ≤ maxLen) :=
  ⟨hs, fun h => by obtain ⟨s, rfl, _, hl⟩ := DataW.trod_string hu h; exact ⟨s, rfl, hl⟩⟩
/-- A slice's cells: its length, and the row that is read. -/
theorem slice_row {α : Type} {t e : TypeId} {d : Kd α} {ok : α → Prop} (hu : P.underlying t = some (.slice e)) (ho : Opens P e d ok)
    {H : Type} {enc : TypeId × Value → H} {w : World} {base : Nat} {spare : Nat → Bool} {held : Bool} {fuel : Nat} {cs : List Value} {x : DataW H × List MemPlace}
    (h : DataW.trod enc P w base spare held fuel t cs = some x) :
    ∃ A c, ∃ xs : List α, cs = [.slice A xs.length c] ∧ xs.length ≤ c ∧ d.C w A xs.length xs ∧ (∀ a ∈ xs, ok a) ∧ (x.1 = .nil ∧ xs = [] ∨ ∃ elems rest, x.1 = .slice elems rest ∧ elems.length = xs.length) := by
  rcases DataW.trod_slice hu h with ⟨rfl, rfl⟩ | ⟨a, len, cap, elems, rest, n, _, rfl, rfl, _, hl, hm, hlen, hel, _, _⟩
  · exact ⟨none, 0, [], rfl, Nat.le_refl _, ⟨rfl, by simp, fun h0 => absurd h0 (by simp)⟩, (fun a ha => by cases ha), .inl ⟨rfl, rfl⟩⟩
  · have each : ∀ i : Fin len, ∃ p, ok p ∧ ∃ c, c.length = d.sz ∧ d.K w p c ∧ ∀ j u, c[j]? = some u → w.cell? (a.add (i * d.sz + j)) = some u := by
      intro i
      have h1 := hel i i.2
      have h2 : (i : Nat) < elems.length := by have := i.2; omega
      rw [List.getElem?_eq_getElem h2, Option.bind_eq_some_iff] at h1
      obtain ⟨cs', hcs, ht⟩ := h1
      obtain ⟨_, hcl, hcc⟩ := World.cells?_some hcs
      obtain ⟨p, hp, hok⟩ := ho.get ht
      rw [ho.size] at hcl hcc
      refine ⟨p, hok, cs', hcl, hp, fun j u hj => ?_⟩
      have hj2 : j < d.sz := by
        rw [← hcl]
        exact (List.getElem?_eq_some_iff.1 hj).1
      have h3 := hcc j hj2
      rw [hj] at h3
      rw [← h3, add_add]
    have hg : ∀ (j : Nat) (p : α), (List.ofFn fun i => Classical.choose (each i))[j]? = some p → ∃ hj : j < len, p = Classical.choose (each ⟨j, hj⟩) := by
      intro j p hp
      obtain ⟨hj, he⟩ := List.getElem?_eq_some_iff.1 hp
      rw [List.length_ofFn] at hj
      refine ⟨hj, ?_⟩
      rw [← he, List.getElem_ofFn]
    refine ⟨some a, cap, List.ofFn fun i => Classical.choose (each i), by rw [List.length_ofFn], by rw [List.length_ofFn]; exact hl, ⟨rfl, ?_, fun _ => ⟨a, rfl, fun j p hp => ?_⟩⟩, ?_, .inr ⟨_, _, rfl, by rw [List.length_ofFn, List.length_map, hlen]⟩⟩
    · rw [List.length_ofFn]
      unfold maxLen at hm
      omega
    · obtain ⟨hj, rfl⟩ := hg j p hp
      obtain ⟨_, c, hc, hk, hcell⟩ := Classical.choose_spec (each ⟨j, hj⟩)
      exact ⟨c, hc, hk, hcell⟩
    · intro p hp
      obtain ⟨j, hj⟩ := List.getElem?_of_mem hp
      obtain ⟨hj', rfl⟩ := hg j p hj
      exact (Classical.choose_spec (each ⟨j, hj'⟩)).1
theorem Opens.slice {α : Type} {t e : TypeId} {d : Kd α} {ok : α → Prop} (hu : P.underlying t = some (.slice e)) (hs : P.cellsOf t = 1) (ho : Opens P e d ok) : Opens P t (Kd.slice e d) (fun xs => ∀ a ∈ xs, ok a) :=
  ⟨hs, fun h => by obtain ⟨A, c, xs, rfl, hl, hc, hok, _⟩ := slice_row hu ho h; exact ⟨xs, ⟨A, c, rfl, hl, hc⟩, hok⟩⟩
/-- A law's slice argument: what it reads as, and how long it is at most. -/
theorem open_row {α : Type} {t e : TypeId} {d : Kd α} {ok : α → Prop} (hu : P.underlying t = some (.slice e)) (ho : Opens P e d ok)
    {H : Type} {enc : TypeId × Value → H} {w : World} {base : Nat} {spare : Nat → Bool} {held : Bool} {a : Option Addr} {len cap : Nat} {dd : DataW H} {ps : List MemPlace} {ts : List TypeId} {ds : List (DataW H)} {j : Nat}
    (hsz : (DataW.weightsEach P ts ds).all (· ≤ reachBytes) = true) (ht : ts[j]? = some t) (hd : ds[j]? = some dd)
    (h : DataW.Trod enc P w base spare held t (.slice a len cap) dd ps) :
    ∃ xs : List α, xs.length = len ∧ len ≤ cap ∧ d.C w a xs.length xs ∧ (∀ x ∈ xs, ok x) ∧ xs.length * P.bytesOf e ≤ 140737488351232 := by
  obtain ⟨fuel, hf⟩ := h
  obtain ⟨A, c, xs, hcs, hl, hc, hok, hx⟩ := slice_row hu ho hf
  simp [Value.cells] at hcs
  obtain ⟨rfl, rfl, rfl⟩ := hcs
  refine ⟨xs, rfl, hl, hc, hok, ?_⟩
  rcases hx with ⟨_, rfl⟩ | ⟨elems, rest, hx, he⟩
  · simp
  · simp only at hx
    subst hx
    have z := Go.sized_slice hsz ht hd hu
    have h3 : xs.length ≤ elems.length + rest.length := by omega
    exact Nat.le_trans (Nat.mul_le_mul_right _ h3) z
end
end Go.Proofs.Ytlfcepdaicngjaa.Opens

/- PrefixWhole: of a whole code any bits are signs: the walk through the law's own code. -/
namespace Go.Proofs.Ytlfcepdaicngjaa.Walk
set_option linter.unusedVariables false
set_option linter.unusedSimpArgs false
open Go Go.RowKit Go.Proofs.Ytlfcepdaicngjaa.P Go.Proofs.Ytlfcepdaicngjaa.Pk Go.Proofs.Ytlfcepdaicngjaa.B Go.Proofs.Ytlfcepdaicngjaa.Bn Go.Proofs.Ytlfcepdaicngjaa.Rd Go.Proofs.YtlfcepdaicngjaaW.PrintWords Go.Proofs.YtlfcepdaicngjaaW.PrintLast Go.Proofs.YtlfcepdaicngjaaW.PrintMore
/-- New, with its answer as one tuple. -/
theorem new_tells (A0 : Option Addr) (c0 : Nat) (l0 : List Int) (o : Bool) (w : World) (hr0 : Kd.C (Kd.int .u8) w A0 l0.length l0) (hc0 : l0.length ≤ c0) (hu : ∀ x ∈ l0, 0 ≤ x) :
    Calls Try.prog 8 #[.slice A0 l0.length c0, .bool o] w fun e w' => ∃ c r, e = .returned (.tuple #[c, .int .i64 r]) ∧ Below w.heap.size w w' ∧
      ((r ≠ 0 ∧ c = .pointer none) ∨ ∃ p n, r = 0 ∧ c = .pointer (some ⟨p, 0, none⟩) ∧ prefix_Fill.f 5000 l0 = some (n, 0) ∧ n ≤ 32768 ∧ okW l0 = true ∧ (32768 ≤ n ∨ o = true ∧ prefix_few.f 5000 l0 = some true) ∧ IsCode w' p l0 (wordsW l0).2) :=
  (new_says A0 c0 l0 o w hr0 hc0 hu).mono fun e w' ⟨hb, h⟩ => by
    rcases h with ⟨r, h1, h2⟩ | ⟨p, n, h0, h1, h2, h3, h4, h5, h6⟩
    · exact ⟨_, _, h2, hb, .inl ⟨h1, rfl⟩⟩
    · exact ⟨_, _, h5, hb, .inr ⟨p, n, rfl, rfl, h1, h2, h3, h4, h6⟩⟩
set_option maxHeartbeats 8000000 in
set_option maxRecDepth 100000 in
theorem PrefixWhole (A : Option Addr) (cap : Nat) (l : List Int) (s : ByteArray) (w : World) (hl : l.length ≤ cap) (hC : Kd.C (Kd.int .u8) w A l.length l) (hok : ∀ x ∈ l, (Lit.int .u8 x).wf = true) (hz : l.length * 1 ≤ 140737488351232) (hs : s.size ≤ 140737488351232) :
    Calls Try.prog 3 #[.slice A l.length cap, .string s] w fun e w' => e = .returned (.bool true) ∧ Below w.heap.size w w' := by
  have hu : ∀ x ∈ l, 0 ≤ x := fun x hx => by
    have := hok x hx
    simp [Lit.wf, IntKind.min, IntKind.max, IntKind.signed, IntKind.bits] at this
    omega
  have HU := Aside0.mk hu
  have HC := Aside0.mk hC
  have HL := Aside0.mk hl
  clear hu hok hC hl hz
  by_cases h4 : 400 < l.length
  · have hd : decide (400 < l.length) = true := decide_eq_true h4
    go_enter Try.func3, Try.ntmps3
    go_wp2_with (go_at_call 7; refine (awake_calls _).mono ?_; rintro e w1 ⟨rfl, hb⟩)
    go_ret
    exact ⟨rfl, by assumption⟩
  have hd : decide (400 < l.length) = false := decide_eq_false h4
  by_cases h2 : 200 < s.size
  · have hd2 : decide (200 < s.size) = true := decide_eq_true h2
    go_enter Try.func3, Try.ntmps3
    go_wp2_with (go_at_call 7; refine (awake_calls _).mono ?_; rintro e w1 ⟨rfl, hb⟩)
    go_ret
    exact ⟨rfl, by assumption⟩
  have hd2 : decide (200 < s.size) = false := decide_eq_false h2
  go_enter Try.func3, Try.ntmps3
  go_upto_region 5 with (go_at_call 7; refine (awake_calls _).mono ?_; rintro e w1 ⟨rfl, hb⟩; have HB1 := Aside0.mk hb; clear hb)
  go_upto_region 6 with (go_at_call 8; refine (new_tells _ _ l false _ (Kd.C_below HC.out HB1.out) HL.out HU.out).mono ?_; rintro e w2 ⟨c, r, rfl, hb, hor⟩; have HB2 := Aside0.mk (below_step HB1.out hb); have HOR := Aside0.mk hor; clear hb hor)
  rcases HOR.out with ⟨hr, rfl⟩ | ⟨p, n, rfl, rfl, hF, hn, hok, hcond, hC2⟩
  · have hrb : (r != 0) = true := bne_iff_ne.2 hr
    clear HOR
    go_wp2
    go_ret
    exact ⟨rfl, HB2.out⟩
  have hn2 : n = 32768 := by
    rcases hcond with h | h
    · omega
    · cases h.1
  have hfill := fill_is l n hok hF
  have HK := Aside0.mk (code_ok l n hok hF hn)
  have HF := Aside0.mk (show fillN (nat l) = 32768 by omega)
  have HP := Aside0.mk hC2
  clear HOR hF hn hok hcond hC2 hn2 hfill
  go_wp2_with (go_at_call 9; refine (bits_Over.calls _ _ _ _ w2 w2 (Below.refl _ _) rfl).mono ?_; rintro e w3 ⟨g, rfl, hi, hb, _⟩; have HI3 := Aside0.mk hi; have HB3 := Aside0.mk hb; clear hi hb)
  go_loopw [36] (fun v36 wr => ∃ (j a : Nat), v36 = .int .i64 j ∧ j ≤ a ∧ a ≤ 8 * s.size ∧ Aside0 (IsS70 w2 wr g s a 0) ∧ Aside0 (Below w2.heap.size w2 wr))
    (fun v36 _ => 8 * s.size + 1 - (intOf v36).toNat)
  case atStart => exact ⟨0, 0, rfl, by omega, by omega, HI3, HB3⟩
  case round =>
    clear HI3 HB3
    obtain ⟨j, a, rfl, hja, ha, HI, HB⟩ := hrel
    have hlt : decide ((j : Int) < 8 * (s.size : Int) + 1) = true := decide_eq_true (by omega)
    have hlt2 : decide (j < 8 * s.size + 1) = true := decide_eq_true (by omega)
    go_upto_region 13 with (first
      | (go_at_call 10; refine (bits_Reader_At.calls g s (a : Int) 0 _ _ _ _ w2 _ HI.out HB.out rfl).mono ?_; rintro e w4 ⟨rfl, hi, hb, _⟩; have HI4 := Aside0.mk hi; have HB4 := Aside0.mk hb; clear hi hb)
      | (go_at_call 11; refine (sign_calls p g a s l _ w2 _ HK.out HP.out HI4.out HB4.out (by omega) ha).mono ?_; rintro e w5 ⟨x, er, a', rfl, hsr, ha', hi, hb, _⟩; have HSR := Aside0.mk hsr; have HI5 := Aside0.mk hi; have HB5 := Aside0.mk hb; clear hi hb hsr))
    rcases whole_sign _ _ s a x er a' HK.out HF.out ha HSR.out with ⟨rfl, h0, h1, h2, h3⟩ | ⟨rfl, rfl, h1, rfl⟩
    · have hx0 : decide (x < 0) = false := decide_eq_false (by omega)
      have hx1 : decide ((l.length : Int) ≤ x) = false := decide_eq_false (by omega)
      have hne : ((a' : Int) - (a : Int) != (a' : Int) - (a : Int)) = false := by simp
      have HLE := Aside0.mk (show (if 0 ≤ x ∧ x < l.length then l.getD x.toNat 0 else 0) = (a' : Int) - (a : Int) by rw [if_pos ⟨h0, h1⟩, h2])
      go_wp2_with (first
        | (go_at_call 12; refine (length_calls p x l _ _ HK.out (HP.out.below HB5.out)).mono ?_; rintro e w6 ⟨rfl, hb⟩; rw [HLE.out]; have HI6 := Aside0.mk (IsS70.below HI5.out hb); have HB6 := Aside0.mk (below_step HB5.out hb); clear hb)
        | (go_at_call 10; refine (bits_Reader_At.calls g s (a' : Int) 0 _ _ _ _ w2 _ HI6.out HB6.out rfl).mono ?_; rintro e w7 ⟨rfl, hi, hb, _⟩; have HI7 := Aside0.mk hi; have HB7 := Aside0.mk hb; clear hi hb))
      go_roundw
      case rel => exact ⟨j + 1, a', by go_num, by omega, ha', HI7, HB7⟩
      case measure => simp [intOf]; omega
    · have hsz : decide (8 * (s.size : Int) - (a' : Int) < 15) = true := decide_eq_true (by omega)
      go_wp2_with (go_at_call 10; refine (bits_Reader_At.calls g s (a' : Int) 0 _ _ _ _ w2 _ HI5.out HB5.out rfl).mono ?_; rintro e w7 ⟨rfl, hi, hb, _⟩; have HB7 := Aside0.mk hb; clear hi hb)
      go_ret
      exact ⟨by simp, below_step HB2.out HB7.out⟩
end Go.Proofs.Ytlfcepdaicngjaa.Walk

/- PrefixBack: what is put is read again, by any code: the walk through the law's own code. -/
namespace Go.Proofs.Ytlfcepdaicngjaa.Walk
set_option linter.unusedVariables false
set_option linter.unusedSimpArgs false
open Go Go.RowKit Go.Proofs.Ytlfcepdaicngjaa.P Go.Proofs.Ytlfcepdaicngjaa.Pk Go.Proofs.Ytlfcepdaicngjaa.B Go.Proofs.Ytlfcepdaicngjaa.Bn Go.Proofs.Ytlfcepdaicngjaa.Hd Go.Proofs.Ytlfcepdaicngjaa.Bw Go.Proofs.Ytlfcepdaicngjaa.Rd Go.Proofs.YtlfcepdaicngjaaW.PrintWords Go.Proofs.YtlfcepdaicngjaaW.PrintLast Go.Proofs.YtlfcepdaicngjaaW.PrintMore
theorem z3 : (Try.prog.info? 3).map (fun i => (i.zero, i.size, i.bytes)) = some (some (.int .i64 0), 1, 8) := by kernel_rfl
/-- The signs that were put, their words in the writer, their row. -/
def PutW (l : List Int) (base g : Nat) (W : World) (vp : Value) (ks : List Nat) (vb : Value) : Prop :=
  (∀ k ∈ ks, ∃ h : k < l.length, 0 < (nat l)[k]'(by rw [nat_len]; exact h)) ∧ IsBW base W g vb (valB (ks.map (wb (nat l)))) (totB (ks.map (wb (nat l)))) ∧ Kd.R (Kd.int .i64) 3 W base (fun k => some k = vp.ownBlock) vp (ks.map (fun k : Nat => (k : Int)))
theorem wb_15 (l ws : List Int) (hk : CodeOk l ws) (ks : List Nat) (h : ∀ k ∈ ks, ∃ h : k < l.length, 0 < (nat l)[k]'(by rw [nat_len]; exact h)) : ∀ p ∈ ks.map (wb (nat l)), p.2 ≤ 15 := by
  intro p hp
  obtain ⟨k, hk1, rfl⟩ := List.mem_map.1 hp
  obtain ⟨h1, h2⟩ := h k hk1
  have := (hk.at_ k h1).2
  show (nat l).getD k 0 ≤ 15
  rw [List.getD_eq_getElem?_getD, List.getElem?_eq_getElem (by rw [nat_len]; exact h1), Option.getD_some]
  exact this
theorem wb_at (l : List Int) (k : Nat) (h : k < l.length) : wb (nat l) k = (rvs (wordN (nat l) k) ((nat l)[k]'(by rw [nat_len]; exact h)), (nat l)[k]'(by rw [nat_len]; exact h)) := by
  unfold wb
  rw [List.getD_eq_getElem?_getD, List.getElem?_eq_getElem (by rw [nat_len]; exact h), Option.getD_some]
theorem wb_all (L ks : List Nat) : ∀ p ∈ ks.map (wb L), p.1 < 2 ^ p.2 := fun p hp => by
  obtain ⟨k, _, rfl⟩ := List.mem_map.1 hp
  exact wb_lt _ _
theorem wb_walk (L ks : List Nat) : ∀ i (h : i < ks.length), totB ((ks.take i).map (wb L)) + (L.getD ks[i] 0) ≤ totB (ks.map (wb L)) ∧ totB ((ks.take (i + 1)).map (wb L)) = totB ((ks.take i).map (wb L)) + (L.getD ks[i] 0) ∧ valB (ks.map (wb L)) / 2 ^ totB ((ks.take i).map (wb L)) % 2 ^ (L.getD ks[i] 0) = rvs (wordN L ks[i]) (L.getD ks[i] 0) := fun i h => by
  have hi : i < (ks.map (wb L)).length := by rw [List.length_map]; exact h
  have h1 := valB_at _ (wb_all L ks) i hi
  have h2 := totB_succ (ks.map (wb L)) i hi
  have h3 := totB_take (ks.map (wb L)) (i + 1)
  rw [List.getElem_map, ← List.map_take] at h1
  rw [List.getElem_map, ← List.map_take, ← List.map_take] at h2
  rw [← List.map_take] at h3
  exact ⟨by rw [h2] at h3; exact h3, h2, h1⟩
set_option maxHeartbeats 16000000 in
set_option maxRecDepth 100000 in
theorem PrefixBack (A : Option Addr) (cap : Nat) (l : List Int) (A2 : Option Addr) (cap2 : Nat) (sg : List Int) (w : World) (hl : l.length ≤ cap) (hC : Kd.C (Kd.int .u8) w A l.length l) (hok : ∀ x ∈ l, (Lit.int .u8 x).wf = true) (hz : l.length * 1 ≤ 140737488351232)
    (hl2 : sg.length ≤ cap2) (hC2 : Kd.C (Kd.int .u16) w A2 sg.length sg) (hok2 : ∀ x ∈ sg, (Lit.int .u16 x).wf = true) (hz2 : sg.length * 2 ≤ 140737488351232) :
    Calls Try.prog 6 #[.slice A l.length cap, .slice A2 sg.length cap2] w fun e w' => e = .returned (.bool true) ∧ Below w.heap.size w w' := by
  have hu : ∀ x ∈ l, 0 ≤ x := fun x hx => by
    have := hok x hx
    simp [Lit.wf, IntKind.min, IntKind.max, IntKind.signed, IntKind.bits] at this
    omega
  have hu2 : ∀ x ∈ sg, 0 ≤ x ∧ x ≤ 65535 := fun x hx => by
    have := hok2 x hx
    simp [Lit.wf, IntKind.min, IntKind.max, IntKind.signed, IntKind.bits] at this
    omega
  have HU := Aside0.mk hu
  have HU2 := Aside0.mk hu2
  have HC := Aside0.mk hC
  have HC2 := Aside0.mk hC2
  have HL := Aside0.mk hl
  clear hu hu2 hok hok2 hC hC2 hl hz hz2 hl2
  by_cases h4 : 400 < l.length
  · have hd : decide (400 < l.length) = true := decide_eq_true h4
    go_enter Try.func6, Try.ntmps6
    go_wp2_with (go_at_call 7; refine (awake_calls _).mono ?_; rintro e w1 ⟨rfl, hb⟩)
    go_ret
    exact ⟨rfl, by assumption⟩
  have hd : decide (400 < l.length) = false := decide_eq_false h4
  by_cases h2 : 100 < sg.length
  · have hd2 : decide (100 < sg.length) = true := decide_eq_true h2
    go_enter Try.func6, Try.ntmps6
    go_wp2_with (go_at_call 7; refine (awake_calls _).mono ?_; rintro e w1 ⟨rfl, hb⟩)
    go_ret
    exact ⟨rfl, by assumption⟩
  have hd2 : decide (100 < sg.length) = false := decide_eq_false h2
  go_enter Try.func6, Try.ntmps6
  go_upto_region 5 with (go_at_call 7; refine (awake_calls _).mono ?_; rintro e w1 ⟨rfl, hb⟩; have HB1 := Aside0.mk hb; clear hb)
  go_upto_region 6 with (go_at_call 8; refine (new_tells _ _ l true _ (Kd.C_below HC.out HB1.out) HL.out HU.out).mono ?_; rintro e w2 ⟨c, r, rfl, hb, hor⟩; have HB2 := Aside0.mk (below_step HB1.out hb); have HOR := Aside0.mk hor; clear hb hor)
  rcases HOR.out with ⟨hr, rfl⟩ | ⟨p, n, rfl, rfl, hF, hn, hok, hcond, hCo⟩
  · have hrb : (r != 0) = true := bne_iff_ne.2 hr
    clear HOR
    go_wp2
    go_ret
    exact ⟨rfl, HB2.out⟩
  have HK := Aside0.mk (code_ok l n hok hF hn)
  have HP := Aside0.mk hCo
  clear HOR hF hn hok hcond hCo
  have HW0 := Aside0.mk (IsBW.new w2.heap.size w2 (Nat.le_refl _))
  have HB3 := Aside0.mk (below_alloc (Below.refl w2.heap.size w2) (.cells #[.slice none 0 0, .int .i64 0] 38))
  go_upto_block 0 with (fail)
  generalize w2.alloc (.cells #[.slice none 0 0, .int .i64 0] 38) = w3 at HW0 HB3 ⊢
  go_cut [8] (fun v8 wc => Aside0 (∃ ks vb, ks.length ≤ 100 ∧ PutW l w2.heap.size w2.heap.size wc v8 ks vb ∧ Below w2.heap.size w2 wc))
  case first =>
    go_wp2
    go_loopw [8, 41] (fun v8 v41 wr => ∃ j : Nat, v41 = .int .i64 j ∧ j ≤ sg.length ∧ Aside0 (∃ ks vb, ks.length ≤ j ∧ PutW l w2.heap.size w2.heap.size wr v8 ks vb) ∧ Aside0 (Below w2.heap.size w2 wr))
      (fun _ v41 _ => sg.length - (intOf v41).toNat)
    case atStart => exact ⟨0, rfl, by omega, ⟨[], _, by simp, fun k hk => by simp at hk, by simpa [valB, totB] using HW0.out, Kd.R_nil _ _ _ _ _⟩, HB3⟩
    case round =>
      clear HW0 HB3
      obtain ⟨j, rfl, hj, HPUT, HB⟩ := hrel
      rename_i u8 _ _ _ _ _ _
      by_cases hlt : j < sg.length
      · have hdj : decide (j < sg.length) = true := decide_eq_true hlt
        obtain ⟨ad, hA, hx⟩ := Kd.at_int HC2.out (j : Int) (by omega) (by omega)
        cases hA
        have hBw := below_step HB2.out HB.out
        replace hx := (hBw.cell (World.block_lt_of_cell? w _ hx)).trans hx
        have hg : rd sg (j : Int) = sg[j] := by unfold rd; rw [List.getD_eq_getElem?_getD, Int.toNat_natCast, List.getElem?_eq_getElem hlt]; rfl
        rw [hg] at hx
        simp only [Int.toNat_natCast] at hx
        have hr := HU2.out _ (List.getElem_mem hlt)
        obtain ⟨y, hy⟩ : ∃ y : Nat, sg[j] = (y : Int) := ⟨sg[j].toNat, by omega⟩
        rw [hy] at hx hr
        have hy16 : y ≤ 65535 := by omega
        clear hg hy hr
        by_cases hl0 : l.length = 0
        · have hlz : (l.length == 0) = true := by simp [hl0]
          have hlz2 : ((l.length : Int) == 0) = true := by simp [hl0]
          go_wp2
          go_meet
          obtain ⟨ks, vb, h1, h2⟩ := HPUT.out
          exact ⟨ks, vb, by omega, h2, HB.out⟩
        have hlz : (l.length == 0) = false := by simpa using hl0
        have hlz2 : ((l.length : Int) == 0) = false := by simpa using hl0
        obtain ⟨k, hk⟩ : ∃ k, y % l.length = k := ⟨_, rfl⟩
        have hkl : k < l.length := by rw [← hk]; exact Nat.mod_lt _ (by omega)
        have hrem : Int.tmod (y : Int) (l.length : Int) = (k : Int) := by rw [Int.tmod_eq_emod_of_nonneg (by omega)]; omega
        have hrem2 : (y : Int) % (l.length : Int) = (k : Int) := by omega
        clear hk
        obtain ⟨ad3, hA3, hz⟩ := Kd.at_int HC.out (k : Int) (by omega) (by omega)
        cases hA3
        have hg3 : rd l (k : Int) = l.getD k 0 := by unfold rd; rw [Int.toNat_natCast]
        obtain ⟨e1, e2⟩ := HK.out.at_ k hkl
        rw [hg3, e1] at hz
        simp only [Int.toNat_natCast] at hz
        have HZ := Aside0.mk hz
        clear hg3 hz
        have hkd : decide (k < l.length) = true := decide_eq_true hkl
        obtain ⟨ks, vb, hkl1, hput⟩ := HPUT.out
        have HKS := Aside0.mk hput.1
        have HI := Aside0.mk hput.2.1
        have HR := Aside0.mk hput.2.2
        have hkl2 : ks.length ≤ 100 := by omega
        have htot := totB_le _ (wb_15 l _ HK.out ks HKS.out)
        rw [List.length_map] at htot
        have HTOT := Aside0.mk htot
        have HZC : ∀ w5 : World, Below w2.heap.size w2 w5 → w5.cell? (ad3.add k) = some (.int .u8 (((nat l)[k]'(by rw [nat_len]; exact hkl) : Nat) : Int)) := fun w5 hb => ((below_step HB2.out hb).cell (World.block_lt_of_cell? w _ HZ.out)).trans HZ.out
        have HZC := Aside0.mk HZC
        have HWB := Aside0.mk (wb_at l k hkl)
        clear hput htot HPUT hBw HZ
        by_cases hp : 0 < (nat l)[k]'(by rw [nat_len]; exact hkl)
        · have HPU := Aside0.mk hp
          obtain ⟨n0, hn0⟩ : ∃ n0, (nat l)[k]'(by rw [nat_len]; exact hkl) = n0 := ⟨_, rfl⟩
          have HN0 := Aside0.mk hn0
          rw [hn0] at HZC hp
          have hp2 : decide (0 < n0) = true := decide_eq_true hp
          clear hn0 e1 e2
          go_upto_region 19 with (go_at_call 13; (with_reducible refine (put_calls p w2.heap.size w2.heap.size k vb _ _ l _ w2 _ HK.out HP.out HB.out hkl HPU.out HI.out (Nat.le_refl _) (by have := HTOT.out; omega)).mono ?_); rintro e w5 ⟨rfl, vb', hi5, hw5⟩; have HI5 := Aside0.mk hi5; have HW5 := Aside0.mk hw5; have HB5 := Aside0.mk (HI.out.under hw5 HB.out); have hz := HZC.out w5 HB5.out; clear hi5 hw5)
          have HR5 := Aside0.mk (Kd.R_kept HR.out HW5.out.kept (fun q hq hs => by
            obtain ⟨c, hc⟩ := Kd.R_typed HR.out q hq.symm
            rcases hs with rfl | hs
            · exact blk_ne hc HI.out.1.blk (by decide) rfl
            · obtain ⟨c2, hc2⟩ := (HI.out.1.own q hs.symm).2.2
              exact blk_ne hc hc2 (by decide) rfl))
          have hxl : (ks.map (fun k : Nat => (k : Int))).length = ks.length := List.length_map ..
          obtain ⟨xs, hxs⟩ : ∃ xs, ks.map (fun k : Nat => (k : Int)) = xs := ⟨_, rfl⟩
          have HXS := Aside0.mk hxs
          rw [hxs] at HR5 hxl
          clear hxs hz HZC HR
          go_wp2_with ((with_reducible refine gate_builtin (b := .append) (xs := #[.tmp 67, .tmp 69]) rfl ?_); at_builtin; refine Kd.R_append (Kd.int .i64) (w0 := w2) w2.heap.size rfl (.tmp 67) (.tmp 69) 39 3 (.int .i64 0) 8 rfl Try.underlying39 z3 rfl (by decide) (by omega) u8 xs (k : Int) [.int .i64 (k : Int)] (fun q => some q = u8.ownBlock ∨ w5.heap.size ≤ q) (fun _ => False) rfl rfl ?aP (fun _ hk => hk.elim) ?aF ?aO ?aB ?aS ?aL ?_; (case aP => rfl); (case aF => exact (fun _ hk => .inr hk)); (case aO => exact Kd.R_mono HR5.out (fun _ hk => .inl hk)); (case aB => exact HB5.out); (case aS => exact HB5.out.size); (case aL => omega); intro v6 w6 ho hb hg hat; have HO6 := Aside0.mk (Kd.R_reok rfl ho (fun k hk => hk.symm) : Kd.R (Kd.int .i64) 3 w6 w2.heap.size (fun q => some q = v6.ownBlock) v6 (xs ++ [(k : Int)])); have HB6 := Aside0.mk hb; have HI6 := Aside0.mk (HI5.out.kept (Kept.of_grown hg (Kept.refl w5 (fun q => some q = u8.ownBlock)) (fun q hq => .inl hq.symm)) (fun hs => by obtain ⟨c, hc⟩ := Kd.R_typed HR5.out _ hs.symm; exact blk_ne hc HI5.out.1.blk (by decide) rfl) (fun q hq hs => by obtain ⟨c, hc⟩ := Kd.R_typed HR5.out _ hs.symm; obtain ⟨c2, hc2⟩ := (HI5.out.1.own q hq).2.2; exact blk_ne hc hc2 (by decide) rfl)); clear ho hb hg hat)
          go_roundw
          case rel =>
            refine ⟨j + 1, by go_num, by omega, ⟨ks ++ [k], vb', by rw [List.length_append, List.length_singleton]; omega, fun q hq => ?_, ?_, ?_⟩, HB6⟩
            · rcases List.mem_append.1 hq with hq | hq
              · exact HKS.out q hq
              · rw [List.mem_singleton.1 hq]; exact ⟨hkl, HPU.out⟩
            · rw [List.map_append, List.map_singleton, valB_snoc, totB_snoc, HWB.out]
              exact HI6.out
            · rw [List.map_append, List.map_singleton, HXS.out]
              exact HO6.out
          case measure => simp [intOf]; omega
        · have hp0 : (nat l)[k]'(by rw [nat_len]; exact hkl) = 0 := by omega
          rw [hp0] at HZC e1
          have HE1 := Aside0.mk e1
          clear hp0 e1 e2 hp
          go_wp2_with (go_at_call 13; refine (put_none p w2.heap.size (k : Int) l _ _ HK.out (HP.out.below HB.out) (.inr (.inr (by rw [Int.toNat_natCast]; exact HE1.out)))).mono ?_; rintro e w5 ⟨rfl, hb5⟩; have HB5 := Aside0.mk (below_step HB.out hb5); have HI5 := Aside0.mk (HI.out.below hb5); have HR5 := Aside0.mk (Kd.R_below HR.out hb5); have hz := HZC.out w5 HB5.out; clear hb5)
          go_roundw
          case rel => exact ⟨j + 1, by go_num, by omega, ⟨ks, vb, by omega, HKS.out, HI5.out, HR5.out⟩, HB5⟩
          case measure => simp [intOf]; omega
      · have hdj : decide (j < sg.length) = false := decide_eq_false hlt
        go_wp2
        go_meet
        obtain ⟨ks, vb, h1, h2⟩ := HPUT.out
        exact ⟨ks, vb, by omega, h2, HB.out⟩
  case rest =>
    obtain ⟨ks, vb, hlen, ⟨hks, hI, hR⟩, hb⟩ := hcut.out
    clear hcut HW0 HB3
    have hl15 := wb_15 l _ HK.out ks hks
    have htot := totB_le _ hl15
    rw [List.length_map] at htot
    have hvl := valB_lt (ks.map (wb (nat l))) (wb_all (nat l) ks)
    have HWL := Aside0.mk (wb_walk (nat l) ks)
    have HKS := Aside0.mk hks
    obtain ⟨N, hN⟩ : ∃ N, valB (ks.map (wb (nat l))) = N := ⟨_, rfl⟩
    obtain ⟨T, hT⟩ : ∃ T, totB (ks.map (wb (nat l))) = T := ⟨_, rfl⟩
    rw [hN, hT] at HWL hI
    rw [hN, hT] at hvl
    rw [hT] at htot
    have hle := txtB_leN N T hvl
    have hsz := txtB_size N T
    have HLE := Aside0.mk hle
    have HT := Aside0.mk hT
    have HI := Aside0.mk hI
    have HB := Aside0.mk hb
    obtain ⟨A8, c8, hv8, hCC⟩ := Kd.R_reads hR
    rw [List.length_map] at hv8 hCC
    subst hv8
    have HCC := Aside0.mk hCC.2
    have HWT : Aside0 (∀ k : Nat, ⟨(ofN ((T + 7) / 8) N).toArray⟩ = txtB N T) := ⟨fun _ => rfl⟩
    obtain ⟨s, hs⟩ : ∃ s, txtB N T = s := ⟨_, rfl⟩
    rw [hs] at HLE hsz HWT
    clear hvl hl15 hks hI hb hR hCC hle hT hs hN
    go_wp2_with (first
      | (go_at_call 18; refine (done_calls w2.heap.size w2.heap.size vb N T _ HI.out (by omega)).mono ?_; rintro e w5 ⟨rfl, hb5⟩; rw [HWT.out 0]; have HD5 := Aside0.mk hb5; have HB5 := Aside0.mk (below_step HB.out hb5); clear hb5)
      | (go_at_call 9; refine (bits_Over.calls _ _ _ _ w5 w5 (Below.refl _ _) rfl).mono ?_; rintro e w6 ⟨gr, rfl, hi, hb, _⟩; have HI6 := Aside0.mk hi; have HB6 := Aside0.mk hb; clear hi hb))
    go_loopw [77] (fun v77 wr => ∃ i : Nat, v77 = .int .i64 i ∧ i ≤ ks.length ∧ Aside0 (IsS70 w5 wr gr s ((totB ((ks.take i).map (wb (nat l))) : Nat) : Int) 0) ∧ Aside0 (Below w5.heap.size w5 wr))
      (fun v77 _ => ks.length - (intOf v77).toNat)
    case atStart => exact ⟨0, rfl, by omega, HI6, HB6⟩
    case round =>
      clear HI6 HB6
      obtain ⟨i, rfl, hi, HR, HBR⟩ := hrel
      by_cases hlt : i < ks.length
      · have hdi : decide (i < ks.length) = true := decide_eq_true hlt
        have hbw := below_step HD5.out HBR.out
        obtain ⟨ad, hA, hx⟩ := Kd.at_int HCC.out (i : Int) (by omega) (by omega)
        cases hA
        replace hx := (hbw.cell (World.block_lt_of_cell? wc _ hx)).trans hx
        have hg : rd (ks.map (fun k : Nat => (k : Int))) (i : Int) = ((ks[i] : Nat) : Int) := by unfold rd; rw [List.getD_eq_getElem?_getD, Int.toNat_natCast, List.getElem?_map, List.getElem?_eq_getElem hlt]; rfl
        rw [hg] at hx
        simp only [Int.toNat_natCast] at hx
        obtain ⟨q1, q2, q3⟩ := HWL.out i hlt
        obtain ⟨r1, r2⟩ := HKS.out ks[i] (List.getElem_mem hlt)
        obtain ⟨k, hk⟩ : ∃ k, ks[i] = k := ⟨_, rfl⟩
        obtain ⟨a, ha⟩ : ∃ a, totB ((ks.take i).map (wb (nat l))) = a := ⟨_, rfl⟩
        simp only [hk] at hx q1 q2 q3 r1 r2
        rw [ha] at HR q1 q2 q3
        have hgd : (nat l).getD k 0 = (nat l)[k]'(by rw [nat_len]; exact r1) := by rw [List.getD_eq_getElem?_getD, List.getElem?_eq_getElem (by rw [nat_len]; exact r1), Option.getD_some]
        rw [hgd] at q1 q2 q3
        have HQ1 := Aside0.mk q1
        have HQ2 := Aside0.mk q2
        have HR1 := Aside0.mk r1
        have HR2 := Aside0.mk r2
        have hnum : num s a ((nat l)[k]'(by rw [nat_len]; exact r1)) = rvs (wordN (nat l) k) ((nat l)[k]'(by rw [nat_len]; exact r1)) := by unfold num; rw [HLE.out]; exact q3
        have HNUM := Aside0.mk hnum
        have hal : a ≤ 8 * s.size := by omega
        clear hnum q1 q2 q3 hgd ha hg
        go_wp2_with (go_at_call 11; (with_reducible refine (sign_calls p gr a s l _ w5 _ HK.out (HP.out.below HB5.out) HR.out HBR.out (by omega) hal).mono ?_); rintro e w7 ⟨x, er, a', rfl, hsr, ha', hi7, hb, _⟩; obtain ⟨rfl, rfl, rfl⟩ := sign_back _ _ s a k x er a' HK.out HR1.out HR2.out (by have := HQ1.out; omega) HNUM.out hsr; have HI7 := Aside0.mk hi7; have HB7 := Aside0.mk hb; clear hi7 hb hsr)
        go_roundw
        case rel => exact ⟨i + 1, by go_num, by omega, by rw [HQ2.out]; exact HI7, HB7⟩
        case measure => simp [intOf]; omega
      · have hdi : decide (i < ks.length) = false := decide_eq_false hlt
        obtain rfl : i = ks.length := by omega
        rw [List.take_length, HT.out] at HR
        go_wp2_with (first
          | (go_at_call 10; refine (bits_Reader_At.calls gr s (T : Int) 0 _ _ _ _ w5 _ HR.out HBR.out rfl).mono ?_; rintro e w7 ⟨rfl, hi7, hb, _⟩; have HB7 := Aside0.mk hb; clear hi7 hb)
          | (go_at_call 20; refine (len_calls w2.heap.size w2.heap.size vb N T _ (HI.out.below (below_step HD5.out HB7.out)) (by omega)).mono ?_; rintro e w8 ⟨rfl, hb⟩; have HB8 := Aside0.mk (below_step HB7.out hb); clear hb))
        go_ret
        exact ⟨by simp, below_step HB2.out (below_step HB5.out HB8.out)⟩
end Go.Proofs.Ytlfcepdaicngjaa.Walk
