/- A struct's block of the call's own, one of whose parts is a row of bytes of the call's own: what is kept, what a store and an append leave. -/
import Derived.Test.YtdbekngboogaoaaWMore
import Derived.Test.YtdbekngboogaoaaWKept
namespace Go.Proofs.Ytdbekngboogaoaa.Hd
set_option linter.unusedVariables false
set_option linter.unusedSimpArgs false
open Go Go.RowKit Go.Proofs.YtdbekngboogaoaaW.PrintWords Go.Proofs.YtdbekngboogaoaaW.PrintLast Go.Proofs.YtdbekngboogaoaaW.PrintMore

/-- Block g holds cs (type T); v, somewhere among them, is a row of the call's own. -/
structure Holds (base : Nat) (W : World) (g T : Nat) (cs : Array Value) (v : Value) (xs : List Int) : Prop where
  blk : W.heap[g]? = some (.cells cs T (0, 0))
  ge : base ≤ g
  row : Kd.R (Kd.int .u8) 5 W base (fun k => some k = v.ownBlock) v xs
section
variable {base g T : Nat} {W W1 w : World} {cs : Array Value} {v v1 v' : Value} {xs ys : List Int} {S : Nat → Prop}
theorem Holds.lt (h : Holds base W g T cs v xs) : g < W.heap.size := blk_lt h.blk
theorem Holds.own (h : Holds base W g T cs v xs) : ∀ k, v.ownBlock = some k → base ≤ k ∧ k < W.heap.size ∧ ∃ cells, W.heap[k]? = some (.cells cells 5 (0, 0)) := fun k hk => ⟨Kd.R_base h.row k hk, Kd.R_lt h.row k hk, Kd.R_typed h.row k hk⟩
theorem Holds.ne (h : Holds base W g T cs v xs) (hT : T ≠ 5) : ∀ k, v.ownBlock = some k → k ≠ g := fun k hk he => by
  obtain ⟨c, hc⟩ := (h.own k hk).2.2
  exact blk_ne hc h.blk (Ne.symm hT) he
theorem Holds.kept (h : Holds base W g T cs v xs) (hk : Kept W W1 S) (hg : ¬ S g) (hr : ∀ k, v.ownBlock = some k → ¬ S k) : Holds base W1 g T cs v xs :=
  ⟨blk_kept h.blk hk hg, h.ge, Kd.R_kept h.row hk (fun k hk => hr k hk.symm)⟩
theorem Holds.below (h : Holds base W g T cs v xs) (hb : Below W.heap.size W W1) : Holds base W1 g T cs v xs := h.kept (Kept.of_below hb (fun _ => False)) (fun h => h) (fun _ _ h => h)
theorem Holds.alloc (h : Holds base W g T cs v xs) (o : Obj) : Holds base (W.alloc o) g T cs v xs := h.below (below_alloc (Below.refl _ _) o)
theorem Holds.drewN (h : Holds base W g T cs v xs) (m : Nat) : Holds base (W.drewN m) g T cs v xs := h.below (pw_below_drewN (Below.refl _ _) m)
theorem Holds.drew (h : Holds base W g T cs v xs) : Holds base W.drew g T cs v xs := h.below (below_drew (Below.refl _ _))
/-- A store into the struct. -/
theorem Holds.set (h : Holds base W g T cs v xs) (hT : T ≠ 5) (j : Nat) (u : Value) : Holds base (W.setCell ⟨g, j, none⟩ u) g T (cs.setIfInBounds j u) v xs :=
  ⟨blk_set h.blk j u, h.ge, Kd.R_far h.row (p := ⟨g, j, none⟩) (fun k hk => h.ne hT k hk.symm) u⟩
/-- A store elsewhere. -/
theorem Holds.far (h : Holds base W g T cs v xs) {p : Addr} (hg : g ≠ p.block) (hr : ∀ k, v.ownBlock = some k → k ≠ p.block) (u : Value) : Holds base (W.setCell p u) g T cs v xs :=
  ⟨blk_far h.blk hg u, h.ge, Kd.R_far h.row (p := p) (fun k hk => hr k hk.symm) u⟩
/-- A store into the row. -/
theorem Holds.put {b cap : Nat} (h : Holds base W g T cs (.slice (some ⟨b, 0, none⟩) xs.length cap) xs) (hT : T ≠ 5) (i : Nat) (x : Int) :
    Holds base (W.setCell ⟨b, i, none⟩ (.int .u8 x)) g T cs (.slice (some ⟨b, 0, none⟩) xs.length cap) (xs.set i x) := by
  have h1 := (Kd.R_put h.row (i : Int) x).1
  simp only [Int.toNat_natCast] at h1
  exact ⟨blk_far h.blk (p := ⟨b, i, none⟩) (fun e => h.ne hT b rfl e.symm) _, h.ge, h1⟩
/-- A new row put in the struct's place j. -/
theorem Holds.turn (h : Holds base W g T cs v xs) (j : Nat) (hr : Kd.R (Kd.int .u8) 5 W base (fun k => some k = v1.ownBlock) v1 ys) (hT : T ≠ 5) : Holds base (W.setCell ⟨g, j, none⟩ v1) g T (cs.setIfInBounds j v1) v1 ys := by
  have h' : Holds base W g T cs v1 ys := ⟨h.blk, h.ge, hr⟩
  exact h'.set hT j v1
end
/-- What a method of the struct at g, whose row was v and is v', keeps. -/
structure Wrote (W W' : World) (g : Nat) (v v' : Value) : Prop where
  same : Below 0 W W'
  kept : Kept W W' (fun k => k = g ∨ some k = v.ownBlock)
  row : v'.ownBlock = v.ownBlock ∨ ∃ b, v'.ownBlock = some b ∧ W.heap.size ≤ b
section
variable {B g g2 T T2 base base2 : Nat} {w W W1 W2 : World} {v v1 v2 u : Value} {cs : Array Value} {xs ys : List Int}
theorem Wrote.refl (W : World) (g : Nat) (v : Value) : Wrote W W g v v := ⟨Below.refl _ _, Kept.refl _ _, .inl rfl⟩
theorem Wrote.trans (h : Wrote W W1 g v v1) (k : Wrote W1 W2 g v1 v2) : Wrote W W2 g v v2 := by
  refine ⟨h.same.trans k.same, h.kept.then_ k.kept (fun q hq => ?_), ?_⟩
  · rcases hq with rfl | hq
    · exact .inl (.inl rfl)
    · rcases h.row with h1 | ⟨b, h1, h2⟩
      · exact .inl (.inr (by rw [hq, h1]))
      · rw [h1] at hq; injection hq with hq; exact .inr (by omega)
  · rcases k.row with k1 | ⟨b, k1, k2⟩
    · rw [k1]; exact h.row
    · exact .inr ⟨b, k1, Nat.le_trans h.kept.1 k2⟩
theorem Wrote.drewN (h : Wrote W W1 g v v1) (m : Nat) : Wrote W (W1.drewN m) g v v1 := ⟨pw_below_drewN h.same m, h.kept.drewN m, h.row⟩
theorem Wrote.drew (h : Wrote W W1 g v v1) : Wrote W W1.drew g v v1 := ⟨below_drew h.same, h.kept.drew, h.row⟩
theorem Wrote.quiet (h : Wrote W W1 g v v1) (hb : Below W1.heap.size W1 W2) : Wrote W W2 g v v1 := ⟨h.same.trans (hb.mono (Nat.zero_le _)), h.kept.below hb, h.row⟩
theorem Wrote.alloc (h : Wrote W W1 g v v1) (o : Obj) : Wrote W (W1.alloc o) g v v1 := h.quiet (below_alloc (Below.refl _ _) o)
theorem same_set (h : Below 0 W W1) (p : Addr) (x : Value) : Below 0 W (W1.setCell p x) := ⟨h.os, h.tape, h.output, by simpa [World.setCell] using h.size, fun k hk => absurd hk (Nat.not_lt_zero _)⟩
theorem Wrote.set (h : Wrote W W1 g v v1) (j : Nat) (x : Value) : Wrote W (W1.setCell ⟨g, j, none⟩ x) g v v1 :=
  ⟨same_set h.same _ _, h.kept.setCell (.inl (.inl rfl)) x, h.row⟩
theorem Wrote.put {b : Nat} (h : Wrote W W1 g v v1) (hb : v1.ownBlock = some b) (j : Nat) (x : Value) : Wrote W (W1.setCell ⟨b, j, none⟩ x) g v v1 := by
  refine ⟨same_set h.same _ _, h.kept.setCell ?_ x, h.row⟩
  rcases h.row with h1 | ⟨c, h1, h2⟩
  · exact .inl (.inr (by rw [← hb, h1]))
  · rw [hb] at h1; injection h1 with h1; exact .inr (by rw [h1]; exact h2)
/-- An append to the row: the row is another. -/
theorem Wrote.grow (h : Wrote W W1 g v v1) (hg : W1.grownBy W2 v1.ownBlock) (hr : v2.ownBlock = v1.ownBlock ∨ ∃ b, v2.ownBlock = some b ∧ W1.heap.size ≤ b) : Wrote W W2 g v v2 :=
  h.trans ⟨⟨hg.os, hg.tape, hg.output, hg.size, fun k hk => absurd hk (Nat.not_lt_zero _)⟩, Kept.of_grown hg (Kept.refl _ _) (fun k hk => .inl (.inr hk.symm)), hr⟩
/-- All below both blocks is as it was. -/
theorem Wrote.below (h : Wrote W W1 g v v1) (hb : Below B w W) (hB : B ≤ W.heap.size) (hg : B ≤ g) (hv : ∀ k, v.ownBlock = some k → B ≤ k) : Below B w W1 := by
  refine hb.trans ⟨h.same.os, h.same.tape, h.same.output, h.same.size, fun k hk => h.kept.2 k (Nat.lt_of_lt_of_le hk hB) (fun hs => ?_)⟩
  rcases hs with rfl | hs
  · omega
  · have := hv k hs.symm; omega
theorem Wrote.below' (h : Wrote W W1 g v v1) (hI : Holds base W g T cs v xs) (hb : Below base w W) : Below base w W1 :=
  h.below hb (Nat.le_of_lt (Nat.lt_of_le_of_lt hI.ge hI.lt)) hI.ge (fun k hk => (hI.own k hk).1)
/-- Another struct with a row of its own stays as it was. -/
theorem Holds.stay (h2 : Holds base2 W g2 T2 cs u ys) (h : Wrote W W1 g v v1) (hg : g2 ≠ g) (hgv : ∀ k, v.ownBlock = some k → g2 ≠ k) (hug : ∀ k, u.ownBlock = some k → k ≠ g) (huv : ∀ k, u.ownBlock = some k → v.ownBlock ≠ some k) : Holds base2 W1 g2 T2 cs u ys :=
  h2.kept h.kept (fun hs => hs.elim hg (fun hs => hgv _ hs.symm rfl)) (fun k hk hs => hs.elim (hug k hk) (fun hs => huv k hk hs.symm))
theorem apart_step (h : Wrote W W1 g v v1) (hlt : ∀ k, u.ownBlock = some k → k < W.heap.size) (huv : ∀ k, u.ownBlock = some k → v.ownBlock ≠ some k) : ∀ k, u.ownBlock = some k → v1.ownBlock ≠ some k := by
  intro k hk
  rcases h.row with h1 | ⟨b, h1, h2⟩
  · rw [h1]; exact huv k hk
  · rw [h1]; intro e; injection e with e; have := hlt k hk; omega
end
end Go.Proofs.Ytdbekngboogaoaa.Hd
