/- An array of whole numbers in a block of its own. -/
import Derived.Test.YtlfcepdaicngjaaWMore
import Derived.Test.YtlfcepdaicngjaaWKept
import Derived.Deep.MidRow
namespace Go.Proofs.Ytlfcepdaicngjaa.Ar
set_option linter.unusedVariables false
set_option linter.unusedSimpArgs false
open Go Go.RowKit Go.Proofs.YtlfcepdaicngjaaW.PrintWords Go.Proofs.YtlfcepdaicngjaaW.PrintLast Go.Proofs.YtlfcepdaicngjaaW.PrintMore
/-- Two rows that a function gives back, out of its results' own blocks. -/
theorem results_rows2 {fn : Func} {t u : Tmp} {T U : TypeId} (h : fn.results = #[.cell t T, .cell u U]) (tmps : Array Value) (P : Program) (w : World) (g g2 : Nat) (cs ds : List Value) (d d2 : TypeDesc)
    (h1 : tmps.getD t undef = .pointer (some ⟨g, 0, none⟩)) (h2 : tmps.getD u undef = .pointer (some ⟨g2, 0, none⟩)) (hc : w.rangeAt g 0 cs) (hc2 : w.rangeAt g2 0 ds)
    (hu : P.underlying T = some d) (hd : d.isRow = true) (hi : (P.info? T).map (·.size) = some cs.length) (hu2 : P.underlying U = some d2) (hd2 : d2.isRow = true) (hi2 : (P.info? U).map (·.size) = some ds.length) :
    (results fn tmps).run P w = .ok (.tuple #[.agg cs.toArray, .agg ds.toArray]) w := by
  rw [Array.getD_eq_getD_getElem?] at h1 h2
  simp [results, h, h1, h2, asAddr, run_loadVar_mid w g 0 T cs d hc hu hd hi, run_loadVar_mid w g2 0 U ds d2 hc2 hu2 hd2 hi2]
/-- Cells laid in a block from B on turn nothing below B. -/
theorem below_setCells {B g : Nat} {w0 : World} (hg : B ≤ g) : ∀ (vs : List Value) (o : Nat) (w : World), Below B w0 w → Below B w0 (w.setCells g o vs)
  | [], _, w, h => h
  | v :: r, o, w, h => below_setCells hg r (o + 1) _ (h.setCell (p := ⟨g, o, none⟩) hg v)
theorem rangeAt_below {w w' : World} {B g o : Nat} {cs : List Value} (h : w.rangeAt g o cs) (hb : Below B w w') (hlt : g < B) : w'.rangeAt g o cs := fun j v hj => by rw [hb.cell (p := ⟨g, o + j, none⟩) hlt]; exact h j v hj
/-- A whole row goes into a block's cells, as the walk shows it. -/
theorem run_store_row {P : Program} (w : World) (g : Nat) (cs : List Value) (n : Nat) (hn : cs.length = n) (ht : w.there g 0 n) (h1 : ∀ v ∈ cs, v.oneCell' = true) :
    (storeCells ⟨g, 0, none⟩ cs).run P w = .ok () (w.setCells g 0 cs) := by
  have := run_storeCells_cells (P := P) g 0 cs 0 w (fun j hj => by simpa using (ht j (by omega)).1) (fun j hj => by simpa using (ht j (by omega)).2) h1
  simpa using this
/-- A whole row is read, as the walk shows it. -/
theorem run_load_row {P : Program} (w : World) (g : Nat) (cs : List Value) (n : Nat) (hn : cs.length = n) (h : w.rangeAt g 0 cs) : (loadCells ⟨g, 0, none⟩ n).run P w = .ok cs.toArray w := by
  rw [← hn]
  exact run_loadCells_list w ⟨g, 0, none⟩ cs (fun j v hj => by rw [Addr.add_mid]; exact h j v hj)
section
variable {W W1 : World} {g T : Nat} {k : IntKind} {xs : List Int} {S : Nat → Prop}
def ints (k : IntKind) (xs : List Int) : List Value := xs.map (Value.int k)
def Arr (W : World) (g T : Nat) (k : IntKind) (xs : List Int) : Prop := W.heap[g]? = some (.cells (ints k xs).toArray T (0, 0))
theorem ints_len (k : IntKind) (xs : List Int) : (ints k xs).length = xs.length := by simp [ints]
theorem Arr.lt (h : Arr W g T k xs) : g < W.heap.size := blk_lt h
theorem Arr.cell (h : Arr W g T k xs) (i : Nat) (hi : i < xs.length) : W.cell? ⟨g, i, none⟩ = some (.int k (xs.getD i 0)) := by
  rw [blk_cell h i]
  simp [ints, List.getD_eq_getElem?_getD, List.getElem?_eq_getElem hi]
theorem Arr.frozen (h : Arr W g T k xs) (i : Nat) : W.frozen? ⟨g, i, none⟩ = false := blk_frozen h i
theorem Arr.set (h : Arr W g T k xs) (i : Nat) (x : Int) : Arr (W.setCell ⟨g, i, none⟩ (.int k x)) g T k (xs.set i x) := by
  have h1 := blk_set h i (.int k x)
  unfold Arr
  rw [h1]
  congr 2
  apply Array.ext'
  simp [ints, List.map_set]
theorem Arr.far (h : Arr W g T k xs) {p : Addr} (hp : g ≠ p.block) (u : Value) : Arr (W.setCell p u) g T k xs := blk_far h hp u
theorem Arr.below (h : Arr W g T k xs) (hb : Below W.heap.size W W1) : Arr W1 g T k xs := blk_below h hb
theorem Arr.alloc (h : Arr W g T k xs) (o : Obj) : Arr (W.alloc o) g T k xs := blk_alloc h o
theorem Arr.drewN (h : Arr W g T k xs) (n : Nat) : Arr (W.drewN n) g T k xs := h
theorem Arr.kept (h : Arr W g T k xs) (hk : Kept W W1 S) (hg : ¬ S g) : Arr W1 g T k xs := blk_kept h hk hg
theorem Arr.range (h : Arr W g T k xs) : W.rangeAt g 0 (ints k xs) := fun j v hj => by
  rw [Nat.zero_add, blk_cell h j]
  simpa using hj
theorem Arr.there (h : Arr W g T k xs) : W.there g 0 xs.length := fun j hj => by
  rw [Nat.zero_add]
  exact ⟨by rw [h.cell j hj]; rfl, h.frozen j⟩
theorem Arr.new (W : World) (T : Nat) (k : IntKind) (xs : List Int) : Arr (W.alloc (.cells (ints k xs).toArray T)) W.heap.size T k xs := heap_alloc_new W _
/-- Two new rows, and what is stored into them whole. -/
theorem two_rows (w w0 : World) (B T U : Nat) (k : IntKind) (za zb : List Int) (csA csB : List Value) (ha : csA.length = za.length) (hb : csB.length = zb.length) (na : 0 < za.length) (nb : 0 < zb.length) (hB : B ≤ w.heap.size) (hw : Below B w0 w) :
    ((w.alloc (.cells (ints k za).toArray T)).alloc (.cells (ints k zb).toArray U)).there w.heap.size 0 za.length
    ∧ (((w.alloc (.cells (ints k za).toArray T)).alloc (.cells (ints k zb).toArray U)).setCells w.heap.size 0 csA).there (w.heap.size + 1) 0 zb.length
    ∧ ((((w.alloc (.cells (ints k za).toArray T)).alloc (.cells (ints k zb).toArray U)).setCells w.heap.size 0 csA).setCells (w.heap.size + 1) 0 csB).rangeAt w.heap.size 0 csA
    ∧ ((((w.alloc (.cells (ints k za).toArray T)).alloc (.cells (ints k zb).toArray U)).setCells w.heap.size 0 csA).setCells (w.heap.size + 1) 0 csB).rangeAt (w.heap.size + 1) 0 csB
    ∧ Below B w0 ((((w.alloc (.cells (ints k za).toArray T)).alloc (.cells (ints k zb).toArray U)).setCells w.heap.size 0 csA).setCells (w.heap.size + 1) 0 csB)
    ∧ w.heap.size + 1 < ((((w.alloc (.cells (ints k za).toArray T)).alloc (.cells (ints k zb).toArray U)).setCells w.heap.size 0 csA).setCells (w.heap.size + 1) 0 csB).heap.size := by
  have hA := (Arr.new w T k za).alloc (.cells (ints k zb).toArray U)
  have hs : (w.alloc (.cells (ints k za).toArray T)).heap.size = w.heap.size + 1 := by simp
  have hZ := Arr.new (w.alloc (.cells (ints k za).toArray T)) U k zb
  rw [hs] at hZ
  have t1 := hA.there
  have t2 := World.there_setCells hZ.there w.heap.size 0 csA
  have t2' := t2
  rw [← hb] at t2'
  have r2 := World.rangeAt_setCells_same _ _ _ _ t2'
  refine ⟨t1, t2, World.rangeAt_setCells_apart (World.rangeAt_setCells_same _ _ _ _ (by rw [ha]; exact t1)) _ _ _ (by omega), r2, ?_, ?_⟩
  · exact below_setCells (by omega) _ _ _ (below_setCells (by omega) _ _ _ ((hw.alloc hB _).alloc (by rw [hs]; omega) _))
  · have h0 : csB[0]? = some csB[0] := List.getElem?_eq_getElem (by omega)
    exact World.block_lt_of_cell? _ _ (r2 0 _ h0)
end
end Go.Proofs.Ytlfcepdaicngjaa.Ar
