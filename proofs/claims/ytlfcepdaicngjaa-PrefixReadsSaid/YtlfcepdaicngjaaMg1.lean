/- Several texts in one (merge.py): An array of whole numbers in a block of its own.; slices.Clone of bytes, in the printer's form: the walk.; prefix.Words: the words of lengths (arrays count, next), in the printer's form: the walk.; A map of the call's own from keys to plain values, told as a function: read, and stored into.; The keys of a code's map: word{length, number}.; prefix.New: a code of lengths: the walk.; A struct's block of the call's own, one of whose parts is a row of bytes of the call's own: what is kept, what a store and an append leave.; Lengths of words: how far they fill, the first word of each length, the words; no word begins another one. Plain Lean, no program.; Plain: lengths that Fill takes.; Plain: the words that prefix.Words makes are Kraft's words.; Plain: what a code's look-up tells; a whole code: any 15 bits begin with a word.; Plain: the reference's words are Kraft's, as texts of 0 and 1. -/
import Derived.Test.YtlfcepdaicngjaaWMore
import Derived.Test.YtlfcepdaicngjaaWKept
import Derived.Deep.MidRow
import Derived.Lib.SliceRun
import Derived.Test.YtlfcepdaicngjaaProg
import Derived.Test.YtlfcepdaicngjaaPx1
import Derived.Maps.Keyed
import Derived.WideKeyEntry
import Derived.ChangeMaps5
import Derived.DeepKeys4
import Derived.Test.YtlfcepdaicngjaaPx7
/- An array of whole numbers in a block of its own. -/
namespace Go.Proofs.Ytlfcepdaicngjaa.Ar
set_option linter.unusedVariables false
set_option linter.unusedSimpArgs false
open Go Go.RowKit Go.Proofs.YtlfcepdaicngjaaW.PrintWords Go.Proofs.YtlfcepdaicngjaaW.PrintLast Go.Proofs.YtlfcepdaicngjaaW.PrintMore
/-- Two rows that a function gives back, out of its results' own blocks. -/
theorem results_rows2 {fn : Func} {t u : Tmp} {T U : TypeId} (h : fn.results = #[.cell t T, .cell u U]) (tmps : Array Value) (P : Program) (w : World) (g g2 : Nat) (cs ds : List Value) (d d2 : TypeDesc)
    (h1 : tmps.getD t undef = .pointer (some ⟨g, 0, none⟩)) (h2 : tmps.getD u undef = .pointer (some ⟨g2, 0, none⟩)) (hc : w.rangeAt g 0 cs) (hc2 : w.rangeAt g2 0 ds)
    (hu : P.underlying T = some d) (hd : d.isRow = true) (hi : (P.info? T).map (·.size) = some cs.length) (hu2 : P.underlying U = some d2) (hd2 : d2.isRow = true) (hi2 : (P.info? U).map (·.size) = some ds.length) :
    (results fn tmps).run P w = .ok (.tuple #[.agg cs.toArray, .agg ds.toArray]) w := by
  rw [Array.getD_eq_getD_getElem?] at h1 h2
  simp [results, h, h1, h2, asAddr, run_loadVar_mid w g 0 T cs d hc hu hd hi, run_loadVar_mid w g2 0 U ds d2 hc2 hu2 hd2 hi2]
/-- Cells laid in a block from B on turn nothing below B. -/
theorem below_setCells {B g : Nat} {w0 : World} (hg : B ≤ g) : ∀ (vs : List Value) (o : Nat) (w : World), Below B w0 w → Below B w0 (w.setCells g o vs)
  | [], _, w, h => h
  | v :: r, o, w, h => below_setCells hg r (o + 1) _ (h.setCell (p := ⟨g, o, none⟩) hg v)
theorem rangeAt_below {w w' : World} {B g o : Nat} {cs : List Value} (h : w.rangeAt g o cs) (hb : Below B w w') (hlt : g < B) : w'.rangeAt g o cs := fun j v hj => by rw [hb.cell (p := ⟨g, o + j, none⟩) hlt]; exact h j v hj
/-- A whole row goes into a block's cells, as the walk shows it. -/
theorem run_store_row {P : Program} (w : World) (g : Nat) (cs : List Value) (n : Nat) (hn : cs.length = n) (ht : w.there g 0 n) (h1 : ∀ v ∈ cs, v.oneCell' = true) :
    (storeCells ⟨g, 0, none⟩ cs).run P w = .ok () (w.setCells g 0 cs) := by
  have := run_storeCells_cells (P := P) g 0 cs 0 w (fun j hj => by simpa using (ht j (by omega)).1) (fun j hj => by simpa using (ht j (by omega)).2) h1
  simpa using this
/-- A whole row is read, as the walk shows it. -/
theorem run_load_row {P : Program} (w : World) (g : Nat) (cs : List Value) (n : Nat) (hn : cs.length = n) (h : w.rangeAt g 0 cs) : (loadCells ⟨g, 0, none⟩ n).run P w = .ok cs.toArray w := by
  rw [← hn]
  exact run_loadCells_list w ⟨g, 0, none⟩ cs (fun j v hj => by rw [Addr.add_mid]; exact h j v hj)
section
variable {W W1 : World} {g T : Nat} {k : IntKind} {xs : List Int} {S : Nat → Prop}
def ints (k : IntKind) (xs : List Int) : List Value := xs.map (Value.int k)
def Arr (W : World) (g T : Nat) (k : IntKind) (xs : List Int) : Prop := W.heap[g]? = some (.cells (ints k xs).toArray T (0, 0))
theorem ints_len (k : IntKind) (xs : List Int) : (ints k xs).length = xs.length := by simp [ints]
theorem Arr.lt (h : Arr W g T k xs) : g < W.heap.size := blk_lt h
theorem Arr.cell (h : Arr W g T k xs) (i : Nat) (hi : i < xs.length) : W.cell? ⟨g, i, none⟩ = some (.int k (xs.getD i 0)) := by
  rw [blk_cell h i]
  simp [ints, List.getD_eq_getElem?_getD, List.getElem?_eq_getElem hi]
theorem Arr.frozen (h : Arr W g T k xs) (i : Nat) : W.frozen? ⟨g, i, none⟩ = false := blk_frozen h i
theorem Arr.set (h : Arr W g T k xs) (i : Nat) (x : Int) : Arr (W.setCell ⟨g, i, none⟩ (.int k x)) g T k (xs.set i x) := by
  have h1 := blk_set h i (.int k x)
  unfold Arr
  rw [h1]
  congr 2
  apply Array.ext'
  simp [ints, List.map_set]
theorem Arr.far (h : Arr W g T k xs) {p : Addr} (hp : g ≠ p.block) (u : Value) : Arr (W.setCell p u) g T k xs := blk_far h hp u
theorem Arr.below (h : Arr W g T k xs) (hb : Below W.heap.size W W1) : Arr W1 g T k xs := blk_below h hb
theorem Arr.alloc (h : Arr W g T k xs) (o : Obj) : Arr (W.alloc o) g T k xs := blk_alloc h o
theorem Arr.drewN (h : Arr W g T k xs) (n : Nat) : Arr (W.drewN n) g T k xs := h
theorem Arr.kept (h : Arr W g T k xs) (hk : Kept W W1 S) (hg : ¬ S g) : Arr W1 g T k xs := blk_kept h hk hg
theorem Arr.range (h : Arr W g T k xs) : W.rangeAt g 0 (ints k xs) := fun j v hj => by
  rw [Nat.zero_add, blk_cell h j]
  simpa using hj
theorem Arr.there (h : Arr W g T k xs) : W.there g 0 xs.length := fun j hj => by
  rw [Nat.zero_add]
  exact ⟨by rw [h.cell j hj]; rfl, h.frozen j⟩
theorem Arr.new (W : World) (T : Nat) (k : IntKind) (xs : List Int) : Arr (W.alloc (.cells (ints k xs).toArray T)) W.heap.size T k xs := heap_alloc_new W _
/-- Two new rows, and what is stored into them whole. -/
theorem two_rows (w w0 : World) (B T U : Nat) (k : IntKind) (za zb : List Int) (csA csB : List Value) (ha : csA.length = za.length) (hb : csB.length = zb.length) (na : 0 < za.length) (nb : 0 < zb.length) (hB : B ≤ w.heap.size) (hw : Below B w0 w) :
    ((w.alloc (.cells (ints k za).toArray T)).alloc (.cells (ints k zb).toArray U)).there w.heap.size 0 za.length
    ∧ (((w.alloc (.cells (ints k za).toArray T)).alloc (.cells (ints k zb).toArray U)).setCells w.heap.size 0 csA).there (w.heap.size + 1) 0 zb.length
    ∧ ((((w.alloc (.cells (ints k za).toArray T)).alloc (.cells (ints k zb).toArray U)).setCells w.heap.size 0 csA).setCells (w.heap.size + 1) 0 csB).rangeAt w.heap.size 0 csA
    ∧ ((((w.alloc (.cells (ints k za).toArray T)).alloc (.cells (ints k zb).toArray U)).setCells w.heap.size 0 csA).setCells (w.heap.size + 1) 0 csB).rangeAt (w.heap.size + 1) 0 csB
    ∧ Below B w0 ((((w.alloc (.cells (ints k za).toArray T)).alloc (.cells (ints k zb).toArray U)).setCells w.heap.size 0 csA).setCells (w.heap.size + 1) 0 csB)
    ∧ w.heap.size + 1 < ((((w.alloc (.cells (ints k za).toArray T)).alloc (.cells (ints k zb).toArray U)).setCells w.heap.size 0 csA).setCells (w.heap.size + 1) 0 csB).heap.size := by
  have hA := (Arr.new w T k za).alloc (.cells (ints k zb).toArray U)
  have hs : (w.alloc (.cells (ints k za).toArray T)).heap.size = w.heap.size + 1 := by simp
  have hZ := Arr.new (w.alloc (.cells (ints k za).toArray T)) U k zb
  rw [hs] at hZ
  have t1 := hA.there
  have t2 := World.there_setCells hZ.there w.heap.size 0 csA
  have t2' := t2
  rw [← hb] at t2'
  have r2 := World.rangeAt_setCells_same _ _ _ _ t2'
  refine ⟨t1, t2, World.rangeAt_setCells_apart (World.rangeAt_setCells_same _ _ _ _ (by rw [ha]; exact t1)) _ _ _ (by omega), r2, ?_, ?_⟩
  · exact below_setCells (by omega) _ _ _ (below_setCells (by omega) _ _ _ ((hw.alloc hB _).alloc (by rw [hs]; omega) _))
  · have h0 : csB[0]? = some csB[0] := List.getElem?_eq_getElem (by omega)
    exact World.block_lt_of_cell? _ _ (r2 0 _ h0)
end
end Go.Proofs.Ytlfcepdaicngjaa.Ar

/- slices.Clone of bytes, in the printer's form: the walk. -/
namespace Go.Proofs.Ytlfcepdaicngjaa.P
set_option linter.unusedVariables false
set_option linter.unusedSimpArgs false
open Go Go.RowKit Go.Proofs.YtlfcepdaicngjaaW.PrintWords Go.Proofs.YtlfcepdaicngjaaW.PrintLast Go.Proofs.YtlfcepdaicngjaaW.PrintMore
theorem info5W : (Try.prog.info? 5).map (fun i => (i.zero, i.size, i.bytes)) = some (some (.int .u8 0), 1, 1) := by kernel_rfl
def slices_Clone_uint8_uint8.f (l0 : List Int) : Option (List Int) := if l0.length ≤ 5000 then some l0 else none
set_option maxHeartbeats 4000000 in
set_option maxRecDepth 100000 in
theorem slices_Clone_uint8_uint8.calls (A0 : Option Addr) (c0 : Nat) (l0 : List Int) (r : List Int) (w : World) (hr0 : Kd.C (Kd.int .u8) w A0 l0.length l0) (hc0 : l0.length ≤ c0) (h : slices_Clone_uint8_uint8.f l0 = some r) :
    Calls Try.prog 24 #[.slice A0 l0.length c0] w fun e w' => ∃ v0_ : Value, e = .returned (v0_) ∧ Kd.R (Kd.int .u8) 5 w' w.heap.size (fun _ => True) v0_ r ∧ Below w.heap.size w w' := by
  unfold slices_Clone_uint8_uint8.f at h
  by_cases hl : l0.length ≤ 5000
  case neg => rw [if_neg hl] at h; cases h
  rw [if_pos hl] at h
  obtain rfl := Option.some.inj h
  cases A0 with
  | none =>
    have hl0 : l0 = [] := by
      cases l0 with
      | nil => rfl
      | cons x l =>
        obtain ⟨ad, e1, _⟩ := Kd.at_int hr0 0 (by omega) (by simp)
        cases e1
    subst hl0
    have q22 := Lib.run_eql_slice_nil (P := Try.prog) w 22 5 none 0 c0 0 0 Try.underlying22
    go_enter Try.func24, Try.ntmps24
    go_wp2
    go_ret
    exact ⟨_, rfl, Kd.R_nil _ _ _ _ _, Below.refl _ _⟩
  | some a =>
    have q22 := Lib.run_eql_slice_nil (P := Try.prog) w 22 5 (some a) l0.length c0 0 0 Try.underlying22
    have hown : (w.alloc (.cells #[] 5)).ownsRow w.heap.size 5 1 (.slice (some ⟨w.heap.size, 0, none⟩) 0 0) ([] : List Int).length (encs (Value.int .u8) []) := ⟨rfl, .inr ⟨w.heap.size, 0, #[], rfl, Nat.le_refl _, heap_alloc_new w _, Nat.le_refl _, by decide, rfl, rfl⟩⟩
    have HO := Aside0.mk (show (Kd.int .u8).R 5 (w.alloc (.cells #[] 5)) w.heap.size (fun _ => True) (.slice (some ⟨w.heap.size, 0, none⟩) 0 0) [] from Kd.R_of_own hown (fun _ _ => trivial))
    have HR := Aside0.mk (Kd.C_alloc hr0 (.cells #[] 5))
    have HB := Aside0.mk (below_alloc (Below.refl w.heap.size w) (.cells #[] 5))
    clear hown hr0 hc0
    go_enter Try.func24, Try.ntmps24
    go_wp2_with (at_builtin; refine Kd.R_append_row (Value.int .u8) 0 (w0 := w) w.heap.size rfl (.tmp 5) (.tmp 6) 22 5 (.int .u8 0) 1 rfl Try.underlying22 info5W rfl (by decide) _ [] l0 _ l0.length c0 (fun _ => True) rfl rfl (fun _ _ => trivial) HO.out HR.out HB.out HB.out.size (by simp; omega) ?_; intro v1 w1 ho hb _ _; have HO1 := Aside0.mk ho; have HB1 := Aside0.mk hb; clear ho hb)
    go_ret
    exact ⟨_, rfl, HO1.out, HB1.out⟩
end Go.Proofs.Ytlfcepdaicngjaa.P

/- prefix.Words: the words of lengths (arrays count, next), in the printer's form: the walk. -/
namespace Go.Proofs.Ytlfcepdaicngjaa.P
set_option linter.unusedVariables false
set_option linter.unusedSimpArgs false
open Go Go.RowKit Go.Proofs.Ytlfcepdaicngjaa.Ar Go.Proofs.YtlfcepdaicngjaaW.PrintWords Go.Proofs.YtlfcepdaicngjaaW.PrintLast Go.Proofs.YtlfcepdaicngjaaW.PrintMore
def zeros17 : List Int := List.replicate 17 0
def cntW (l : List Int) : List Int := l.foldl (fun xs x => xs.set x.toNat ((xs.getD x.toNat 0 + 1) % 4294967296)) zeros17
def nextW (c : List Int) : Nat → List Int
  | 0 => zeros17
  | m + 1 => (nextW c m).set (m + 2) ((((nextW c m).getD (m + 1) 0 + c.getD (m + 1) 0) % 4294967296 * 2) % 4294967296)
def stepW (p : List Int × List Int) (x : Int) : List Int × List Int := if x > 0 then (p.1.set x.toNat ((p.1.getD x.toNat 0 + 1) % 4294967296), p.2 ++ [p.1.getD x.toNat 0]) else (p.1, p.2 ++ [0])
def wordsW (l : List Int) : List Int × List Int := l.foldl stepW (nextW ((cntW l).set 0 0) 15, [])
theorem wordsW_snoc (c : List Int) (l : List Int) (x : Int) : (l ++ [x]).foldl stepW (nextW c 15, []) = stepW (l.foldl stepW (nextW c 15, [])) x := by simp
theorem cntW_snoc (l : List Int) (x : Int) : cntW (l ++ [x]) = (cntW l).set x.toNat (((cntW l).getD x.toNat 0 + 1) % 4294967296) := by simp [cntW]
theorem cntW_len (l : List Int) : (cntW l).length = 17 := by
  have key : ∀ (l xs : List Int), (l.foldl (fun xs x => xs.set x.toNat ((xs.getD x.toNat 0 + 1) % 4294967296)) xs).length = xs.length := by
    intro l
    induction l with
    | nil => intro xs; rfl
    | cons x l ih => intro xs; rw [List.foldl_cons, ih, List.length_set]
  unfold cntW; rw [key]; rfl
theorem nextW_len (c : List Int) : ∀ m, (nextW c m).length = 17
  | 0 => rfl
  | m + 1 => by rw [nextW, List.length_set]; exact nextW_len c m
theorem foldW_len (l : List Int) : ∀ p : List Int × List Int, (l.foldl stepW p).1.length = p.1.length ∧ (l.foldl stepW p).2.length = p.2.length + l.length := by
  induction l with
  | nil => intro p; exact ⟨rfl, rfl⟩
  | cons x l ih =>
    intro p
    rw [List.foldl_cons, (ih _).1, (ih _).2]
    unfold stepW
    split
    · simp; omega
    · simp; omega
def okW (l : List Int) : Bool := decide (l.length ≤ 4096) && l.all (fun x => decide (0 ≤ x) && decide (x ≤ 15))
def prefix_Words.f (l0 : List Int) : Option (List Int × Int) := (prefix_Fill.f 5000 l0).bind fun b => if b.2 = 0 then (if b.1 > 32768 then some ([], 10) else (if okW l0 = true then some ((wordsW l0).2, 0) else none)) else some ([], b.2)
theorem info60W : (Try.prog.info? 60).map (fun i => (i.zero, i.size, i.bytes)) = some (some (.int .u32 0), 1, 4) := by kernel_rfl
theorem set_rep (a : List Int) (k : Nat) (v : Int) : (a ++ List.replicate (k + 1) 0).set a.length v = a ++ [v] ++ List.replicate k 0 := by
  rw [List.set_append_right _ _ (Nat.le_refl _), Nat.sub_self, List.replicate_succ, List.set_cons_zero]; simp
theorem zero83 : (#[.int .u32 0, .int .u32 0, .int .u32 0, .int .u32 0, .int .u32 0, .int .u32 0, .int .u32 0, .int .u32 0, .int .u32 0, .int .u32 0, .int .u32 0, .int .u32 0, .int .u32 0, .int .u32 0, .int .u32 0, .int .u32 0, .int .u32 0] : Array Value) = (ints .u32 zeros17).toArray := by kernel_rfl
set_option maxHeartbeats 4000000 in
set_option maxRecDepth 100000 in
theorem prefix_Words.calls (A0 : Option Addr) (c0 : Nat) (l0 : List Int) (r1 : List Int) (r2 : Int) (w : World) (hr0 : Kd.C (Kd.int .u8) w A0 l0.length l0) (hc0 : l0.length ≤ c0) (h : prefix_Words.f l0 = some (r1, r2)) :
    Calls Try.prog 21 #[.slice A0 l0.length c0] w fun e w' => ∃ v0_ : Value, e = .returned (.tuple #[v0_, .int .i64 r2]) ∧ Kd.R (Kd.int .u32) 60 w' w.heap.size (fun _ => True) v0_ r1 ∧ Below w.heap.size w w' := by
  unfold prefix_Words.f at h
  obtain ⟨⟨n, e⟩, hF, h⟩ := Option.bind_eq_some_iff.1 h
  replace h : (if e = 0 then (if n > 32768 then some (([] : List Int), (10 : Int)) else (if okW l0 = true then some ((wordsW l0).2, 0) else none)) else some ([], e)) = some (r1, r2) := h
  have HF := Aside0.mk hF
  have HR := Aside0.mk hr0
  have HC := Aside0.mk hc0
  clear hF hr0 hc0
  by_cases he : e = 0
  case neg =>
    rw [if_neg he] at h
    have hb : (e != 0) = true := bne_iff_ne.mpr he
    clear he
    simp only [Option.some.injEq, Prod.mk.injEq] at h
    obtain ⟨rfl, rfl⟩ := h
    go_enter Try.func21, Try.ntmps21
    go_wp2_with (go_at_call 22; refine (prefix_Fill.calls 5000 _ _ l0 _ _ _ HR.out HC.out HF.out).mono ?_; rintro e w' ⟨rfl, ⟨nd, rfl⟩⟩)
    go_ret2
    exact ⟨_, rfl, Kd.R_nil _ _ _ _ _, pw_below_drewN (Below.refl _ _) _⟩
  rw [if_pos he] at h
  subst he
  by_cases hn : n > 32768
  · rw [if_pos hn] at h
    have hb : decide (32768 < n) = true := decide_eq_true hn
    clear hn
    simp only [Option.some.injEq, Prod.mk.injEq] at h
    obtain ⟨rfl, rfl⟩ := h
    go_enter Try.func21, Try.ntmps21
    go_wp2_with (go_at_call 22; refine (prefix_Fill.calls 5000 _ _ l0 _ _ _ HR.out HC.out HF.out).mono ?_; rintro e w' ⟨rfl, ⟨nd, rfl⟩⟩)
    go_ret2
    exact ⟨_, rfl, Kd.R_nil _ _ _ _ _, pw_below_drewN (Below.refl _ _) _⟩
  rw [if_neg hn] at h
  have hb : decide (32768 < n) = false := decide_eq_false hn
  clear hn
  by_cases hok : okW l0 = true
  case neg => rw [if_neg hok] at h; cases h
  rw [if_pos hok] at h
  simp only [Option.some.injEq, Prod.mk.injEq] at h
  obtain ⟨rfl, rfl⟩ := h
  obtain ⟨hlen, hall⟩ : l0.length ≤ 4096 ∧ ∀ x ∈ l0, 0 ≤ x ∧ x ≤ 15 := by simpa [okW] using hok
  have HALL := Aside0.mk hall
  have HLEN := Aside0.mk hlen
  clear hok hall hlen
  have hz := zero83
  go_enter Try.func21, Try.ntmps21
  go_upto_region 6 with (go_at_call 22; refine (prefix_Fill.calls 5000 _ _ l0 _ _ _ HR.out HC.out HF.out).mono ?_; rintro e w' ⟨rfl, ⟨nd, rfl⟩⟩)
  go_upto_region 7 with (fail)
  have HA := Aside0.mk ((Arr.new (w.drewN nd) 83 .u32 zeros17).alloc (.cells (ints .u32 zeros17).toArray 83))
  have HN := Aside0.mk (Arr.new ((w.drewN nd).alloc (.cells (ints .u32 zeros17).toArray 83)) 83 .u32 zeros17)
  have HB := Aside0.mk (below_alloc (below_alloc (pw_below_drewN (Below.refl w.heap.size w) nd) (.cells (ints .u32 zeros17).toArray 83)) (.cells (ints .u32 zeros17).toArray 83))
  have hs1 : ((w.drewN nd).alloc (.cells (ints .u32 zeros17).toArray 83)).heap.size = w.heap.size + 1 := by simp
  have hs0 : (w.drewN nd).heap.size = w.heap.size := by simp
  rw [hs1] at HN
  rw [hs0] at HA
  generalize ((w.drewN nd).alloc (.cells (ints .u32 zeros17).toArray 83)).alloc (.cells (ints .u32 zeros17).toArray 83) = w2 at HA HN HB ⊢
  clear hs1 hs0 hz h
  obtain ⟨gN, hgN⟩ : ∃ g, w.heap.size + 1 = g := ⟨_, rfl⟩
  rw [hgN] at HN ⊢
  have HG := Aside0.mk hgN
  clear hgN
  have hlen := HLEN.out
  go_wp2
  go_loopw [28] (fun v28 wr => ∃ j : Nat, v28 = .int .i64 j ∧ j ≤ l0.length ∧ Aside0 (Arr wr w.heap.size 83 .u32 (cntW (l0.take j))) ∧ Aside0 (Arr wr gN 83 .u32 zeros17) ∧ Aside0 (Below w.heap.size w wr))
    (fun v _ => l0.length - (intOf v).toNat)
  case atStart => exact ⟨0, rfl, by omega, HA, HN, HB⟩
  case round =>
    clear HA HN HB
    obtain ⟨j, rfl, hj, HA, HN, HB⟩ := hrel
    by_cases hlt : j < l0.length
    · have hd : decide (j < l0.length) = true := decide_eq_true hlt
      obtain ⟨ad, hA, hx⟩ := Kd.at_int HR.out (j : Int) (by omega) (by omega)
      cases hA
      replace hx := (HB.out.cell (World.block_lt_of_cell? w _ hx)).trans hx
      have hg : rd l0 (j : Int) = l0[j] := by unfold rd; rw [List.getD_eq_getElem?_getD, Int.toNat_natCast, List.getElem?_eq_getElem hlt]; rfl
      rw [hg] at hx
      simp only [Int.toNat_natCast] at hx
      have hr := HALL.out _ (List.getElem_mem hlt)
      have hsn : cntW (l0.take (j + 1)) = (cntW (l0.take j)).set l0[j].toNat (((cntW (l0.take j)).getD l0[j].toNat 0 + 1) % 4294967296) := by rw [List.take_succ_eq_append_getElem hlt, cntW_snoc]
      have hl1 := cntW_len (l0.take j)
      obtain ⟨x, hxx⟩ : ∃ x, l0[j] = x := ⟨_, rfl⟩
      rw [hxx] at hx hr hsn
      have HSN := Aside0.mk hsn
      clear hsn hg hxx
      have hcell := HA.out.cell x.toNat (by omega)
      have hfr := HA.out.frozen x.toNat
      have hi1 : decide (0 ≤ x) = true := decide_eq_true (by omega)
      have hi2 : decide (x < 17) = true := decide_eq_true (by omega)
      go_wp2
      have hg := HG.out
      refine ⟨⟨j + 1, by go_num, by omega, ⟨by rw [HSN.out]; exact HA.out.set _ _⟩, ⟨HN.out.far (by simp; omega) _⟩, ⟨below_set HB.out (by omega)⟩⟩, by simp [intOf]; omega⟩
    · have hd : decide (j < l0.length) = false := decide_eq_false hlt
      obtain rfl : j = l0.length := by omega
      rw [List.take_length] at HA
      have hl1 := cntW_len l0
      have hcell := HA.out.cell 0 (by omega)
      have hfr := HA.out.frozen 0
      go_upto_region 13 with (fail)
      have HA2 := Aside0.mk (HA.out.set 0 0)
      have HN2 := Aside0.mk (HN.out.far (p := ⟨w.heap.size, 0, none⟩) (by show gN ≠ w.heap.size; have := HG.out; omega) (.int .u32 0))
      have HB2 := Aside0.mk (show Below w.heap.size w (wr.setCell ⟨w.heap.size, 0, none⟩ (.int .u32 0)) from below_set HB.out (Nat.le_refl _))
      generalize wr.setCell ⟨w.heap.size, 0, none⟩ (.int .u32 0) = w3 at HA2 HN2 HB2 ⊢
      clear HA HN HB hcell hfr
      have hlc : ((cntW l0).set 0 0).length = 17 := by rw [List.length_set]; exact hl1
      obtain ⟨c, hc⟩ : ∃ c, (cntW l0).set 0 0 = c := ⟨_, rfl⟩
      rw [hc] at HA2 hlc
      have HCC := Aside0.mk hc
      clear hc hl1 hd
      go_wp2
      go_loopw [10] (fun v10 wr => ∃ m : Nat, v10 = .int .i64 m ∧ 1 ≤ m ∧ m ≤ 16 ∧ Aside0 (Arr wr w.heap.size 83 .u32 c) ∧ Aside0 (Arr wr gN 83 .u32 (nextW c (m - 1))) ∧ Aside0 (Below w.heap.size w wr))
        (fun v _ => 16 - (intOf v).toNat)
      case atStart => exact ⟨1, rfl, by omega, by omega, HA2, HN2, HB2⟩
      case round =>
        clear HA2 HN2 HB2
        obtain ⟨m, rfl, hm1, hm, HA, HN, HB⟩ := hrel
        have hln := nextW_len c (m - 1)
        by_cases hlt : m ≤ 15
        · have hd : decide (m ≤ 15) = true := decide_eq_true hlt
          have hns : nextW c (m - 1 + 1) = (nextW c (m - 1)).set (m - 1 + 2) ((((nextW c (m - 1)).getD (m - 1 + 1) 0 + c.getD (m - 1 + 1) 0) % 4294967296 * 2) % 4294967296) := nextW.eq_2 _ _
          rw [show m - 1 + 1 = m by omega, show m - 1 + 2 = m + 1 by omega] at hns
          obtain ⟨xs, hxs⟩ : ∃ xs, nextW c (m - 1) = xs := ⟨_, rfl⟩
          rw [hxs] at HN hns hln
          have HNS := Aside0.mk hns
          clear hns hxs
          have hc1 := HA.out.cell m (by omega)
          have hc2 := HN.out.cell m (by omega)
          have hc3 := HN.out.cell (m + 1) (by omega)
          have hf3 := HN.out.frozen (m + 1)
          have hb1 : decide (m < 17) = true := decide_eq_true (by omega)
          have hb2 : decide (m + 1 < 17) = true := decide_eq_true (by omega)
          go_wp2
          go_region
          simp only [List.getD_eq_getElem?_getD] at HNS
          go_wp2
          have hg := HG.out
          refine ⟨⟨m + 1, by go_num, by omega, by omega, ⟨Arr.far (Arr.drewN HA.out 1) (by show w.heap.size ≠ gN; omega) _⟩, ⟨by rw [show m + 1 - 1 = m by omega, HNS.out]; exact Arr.set (Arr.drewN HN.out 1) _ _⟩, ⟨below_set (pw_below_drewN HB.out 1) (by omega)⟩⟩, by simp [intOf]; omega⟩
        · have hd : decide (m ≤ 15) = false := decide_eq_false hlt
          obtain rfl : m = 16 := by omega
          clear HA
          have hi60 := info60W
          have hgl := HN.out.lt
          have HGL := Aside0.mk hgl
          clear hgl
          go_upto_region 18 with ((with_reducible refine gate_dst (N := 56) rfl ?_); refine Kd.R_make (Kd.int .u32) w.heap.size 60 rfl (N := 56) rfl 57 _ _ rfl (l0.length : Int) rfl rfl Try.underlying57 (.int .u32 0) 4 info60W rfl (by decide) (by omega) (0 : Int) (ok := fun k => gN < k) (okp := fun k => gN < k) rfl (fun _ hk => hk) HGL.out (by omega) (by omega) HB.out HB.out.size ?_; intro vo w7 ho hb hgr hnew)
          have HN7 : Aside0 (Arr w7 gN 83 .u32 (nextW c 15)) := ⟨(hgr.block gN HGL.out (by simp)).trans HN.out⟩
          have HO := Aside0.mk ho
          have HB7 := Aside0.mk hb
          clear hgr hnew ho hb HN HB HGL hi60 hln hd
          simp only [Int.toNat_natCast] at HO
          go_wp2
          go_loopw [59] (fun v59 wr => ∃ j : Nat, v59 = .int .i64 j ∧ j ≤ l0.length ∧ Aside0 (Arr wr gN 83 .u32 ((l0.take j).foldl stepW (nextW c 15, [])).1) ∧ Aside0 ((Kd.int .u32).R 60 wr w.heap.size (fun k => gN < k) vo (((l0.take j).foldl stepW (nextW c 15, [])).2 ++ List.replicate (l0.length - j) 0)) ∧ Aside0 (Below w.heap.size w wr))
            (fun v _ => l0.length - (intOf v).toNat)
          case atStart => exact ⟨0, rfl, by omega, HN7, HO, HB7⟩
          case round =>
            clear HN7 HO HB7
            obtain ⟨j, rfl, hj, HN, HO, HB⟩ := hrel
            have hfl := foldW_len (l0.take j) (nextW c 15, [])
            have hl1 : ((l0.take j).foldl stepW (nextW c 15, [])).1.length = 17 := hfl.1.trans (nextW_len c 15)
            have hl2 : ((l0.take j).foldl stepW (nextW c 15, [])).2.length = j := by rw [hfl.2, List.length_take]; simp; omega
            clear hfl
            by_cases hlt : j < l0.length
            · have hd : decide (j < l0.length) = true := decide_eq_true hlt
              obtain ⟨ad, hA, hx⟩ := Kd.at_int HR.out (j : Int) (by omega) (by omega)
              cases hA
              replace hx := (HB.out.cell (World.block_lt_of_cell? w _ hx)).trans hx
              have hg : rd l0 (j : Int) = l0[j] := by unfold rd; rw [List.getD_eq_getElem?_getD, Int.toNat_natCast, List.getElem?_eq_getElem hlt]; rfl
              rw [hg] at hx
              simp only [Int.toNat_natCast] at hx
              have hr := HALL.out _ (List.getElem_mem hlt)
              have hsn : (l0.take (j + 1)).foldl stepW (nextW c 15, []) = stepW ((l0.take j).foldl stepW (nextW c 15, [])) l0[j] := by rw [List.take_succ_eq_append_getElem hlt, wordsW_snoc]
              obtain ⟨p, hp⟩ : ∃ p, (l0.take j).foldl stepW (nextW c 15, []) = p := ⟨_, rfl⟩
              obtain ⟨x, hxx⟩ : ∃ x, l0[j] = x := ⟨_, rfl⟩
              rw [hp] at HN HO hsn hl1 hl2
              rw [hxx] at hx hr hsn
              have HSN := Aside0.mk hsn
              clear hsn hg hxx hp
              obtain ⟨k, hk⟩ : ∃ k, l0.length - j = k + 1 := ⟨l0.length - j - 1, by omega⟩
              rw [hk] at HO
              have hk2 : l0.length - (j + 1) = k := by omega
              have HK := Aside0.mk hk2
              clear hk hk2
              by_cases hz : x > 0
              · have hst : stepW p x = (p.1.set x.toNat ((p.1.getD x.toNat 0 + 1) % 4294967296), p.2 ++ [p.1.getD x.toNat 0]) := by unfold stepW; rw [if_pos hz]
                rw [hst] at HSN
                have hzb : decide (0 < x) = true := decide_eq_true hz
                have hset := set_rep p.2 k (p.1.getD x.toNat 0)
                rw [hl2] at hset
                obtain ⟨os, hos⟩ : ∃ os, p.2 ++ List.replicate (k + 1) 0 = os := ⟨_, rfl⟩
                have hlo : os.length = l0.length := by rw [← hos, List.length_append, List.length_replicate, hl2]; have := HK.out; omega
                rw [hos] at HO hset
                have HSET := Aside0.mk hset
                clear hos hset hst
                obtain ⟨go, co, eo, gb, gl, cl, hgo⟩ := Kd.R_form HO.out (by omega)
                rw [hlo] at eo
                subst eo
                have hgN : gN < go := HO.out.1 go rfl
                have HGO := Aside0.mk hgN
                have HGB := Aside0.mk gb
                clear gb gl hgo
                obtain ⟨hc3, hf3⟩ := Kd.R_celln (0 : Int) HO.out (j : Int) (by omega) (by omega)
                simp only [Int.toNat_natCast] at hc3 hf3
                have hcell := HN.out.cell x.toNat (by omega)
                have hfr := HN.out.frozen x.toNat
                have hi1 : decide (0 ≤ x) = true := decide_eq_true (by omega)
                have hi2 : decide (x < 17) = true := decide_eq_true (by omega)
                have hne : gN ≠ go := by omega
                have hne2 : go ≠ gN := by omega
                clear hgN
                go_wp2
                simp only [List.getD_eq_getElem?_getD] at HSN HSET
                have hgb := HGB.out
                have hh := HG.out
                have ho1 := Kd.R_putn HO.out (j : Int) (p.1[x.toNat]?.getD 0)
                simp only [Int.toNat_natCast] at ho1
                rw [HSET.out] at ho1
                have ho2 := Kd.R_far ho1 (p := ⟨gN, x.toNat, none⟩) (fun k hk => by show k ≠ gN; omega) (.int .u32 ((p.1[x.toNat]?.getD 0 + 1) % 4294967296))
                refine ⟨⟨j + 1, by go_num, by omega, ⟨by rw [HSN.out]; exact Arr.set (Arr.far HN.out (by show gN ≠ go; omega) _) _ _⟩, ⟨by rw [HSN.out, HK.out]; exact ho2⟩, ⟨below_set (below_set HB.out (by omega)) (by omega)⟩⟩, by simp [intOf]; omega⟩
              · obtain rfl : x = 0 := by omega
                have hst : stepW p 0 = (p.1, p.2 ++ [0]) := by unfold stepW; rw [if_neg (by omega)]
                rw [hst] at HSN
                go_wp2
                go_roundw
                case rel => exact ⟨j + 1, by go_num, by omega, by rw [HSN.out]; exact HN, by rw [HSN.out, HK.out, List.append_assoc]; exact HO, HB⟩
                case measure => simp [intOf]; omega
            · have hd : decide (j < l0.length) = false := decide_eq_false hlt
              obtain rfl : j = l0.length := by omega
              rw [List.take_length, Nat.sub_self, List.replicate_zero, List.append_nil, ← HCC.out] at HO
              go_wp2
              go_ret2
              exact ⟨_, rfl, Kd.R_mono HO.out (fun _ _ => trivial), HB.out⟩
end Go.Proofs.Ytlfcepdaicngjaa.P

/- A map of the call's own from keys to plain values, told as a function: read, and stored into. -/
namespace Go.Proofs.Ytlfcepdaicngjaa.MapV
set_option linter.unusedVariables false
set_option linter.unusedSimpArgs false
set_option linter.unusedSectionVars false
open Go Go.RowKit Go.MapKept Go.ChangeMaps Go.Maps Go.Proofs.YtlfcepdaicngjaaW.PrintWords Go.Proofs.YtlfcepdaicngjaaW.PrintLast Go.Proofs.YtlfcepdaicngjaaW.PrintMore
section
variable {P : Program} {κ : Type} [DecidableEq κ] {enc : κ → Value} {k : TypeId}

/-- What a map tells behind a store. -/
def upd (g : κ → Option Value) (a : κ) (v : Value) : κ → Option Value := fun c => if c = a then some v else g c
/-- Block b of w is a map that tells g. -/
def OwnsV (enc : κ → Value) (w : World) (b : Nat) (g : κ → Option Value) : Prop :=
  ∃ es clock, w.heap[b]? = some (.map es clock) ∧ (∀ x ∈ es.toList, ∃ a, x.key = enc a) ∧ (es.toList.map (·.key)).Nodup ∧ (∀ a v, g a = some v ↔ ∃ x ∈ es.toList, x.key = enc a ∧ x.val = v) ∧ (∀ x ∈ es.toList, x.born < clock) ∧ (es.toList.map (·.born)).Nodup

theorem made (w : World) : OwnsV enc (w.alloc (.map #[] 0)) w.heap.size (fun _ => none) :=
  ⟨#[], 0, (heap_alloc w _).1, by simp, by simp, by simp, by simp, by simp⟩
theorem OwnsV.lt {w : World} {b : Nat} {g : κ → Option Value} (h : OwnsV enc w b g) : b < w.heap.size := by
  obtain ⟨es, clock, hm, _⟩ := h
  exact (Array.getElem?_eq_some_iff.1 hm).1
theorem OwnsV.move {w w1 : World} {b : Nat} {g : κ → Option Value} (h : OwnsV enc w b g) (hb : w1.heap[b]? = w.heap[b]?) : OwnsV enc w1 b g := by
  obtain ⟨es, clock, hm, h1, h2, h3, h4, h5⟩ := h
  exact ⟨es, clock, hb.trans hm, h1, h2, h3, h4, h5⟩
theorem OwnsV.grown {w w1 : World} {b : Nat} {g : κ → Option Value} {row : Option Nat} (h : OwnsV enc w b g) (hg : w.grownBy w1 row) (hb : some b ≠ row) : OwnsV enc w1 b g := h.move (hg.block b h.lt hb)
theorem OwnsV.below {w w1 : World} {b : Nat} {g : κ → Option Value} (h : OwnsV enc w b g) (hb : Below w.heap.size w w1) : OwnsV enc w1 b g := h.move (hb.block b h.lt)
theorem grown_block {w : World} {b : Nat} {es es' : Array MapEntry} {c c' : Nat} (hb : w.heap[b]? = some (.map es c)) : w.grownBy (setBlock w b (.map es' c')) (some b) :=
  ⟨rfl, rfl, rfl, by simp [setBlock], fun i _ hne => heap_setBlock_other hb _ (fun e => hne (by rw [e]))⟩
theorem push_lt {es : Array MapEntry} {clock : Nat} (h4 : ∀ x ∈ es.toList, x.born < clock) (u v : Value) : ∀ x ∈ (es.push ⟨u, v, clock⟩).toList, x.born < clock + 1 := by
  intro x hx
  rw [Array.toList_push] at hx
  rcases List.mem_append.1 hx with hx | hx
  · have := h4 x hx; omega
  · rw [List.mem_singleton.1 hx]; simp
theorem push_nd {es : Array MapEntry} {clock : Nat} (h4 : ∀ x ∈ es.toList, x.born < clock) (h5 : (es.toList.map (·.born)).Nodup) (u v : Value) : ((es.push ⟨u, v, clock⟩).toList.map (·.born)).Nodup := by
  rw [Array.toList_push, List.map_append]
  refine List.nodup_append.2 ⟨h5, by simp, fun q hq c hc e1 => ?_⟩
  simp only [List.map_cons, List.map_nil, List.mem_singleton] at hc
  obtain ⟨x, hx, rfl⟩ := List.mem_map.1 hq
  have := h4 x hx
  omega
section
variable {t E : TypeId} {w : World} {b : Nat} {g : κ → Option Value}
theorem find_key (K : Keyed P k) (hkey : ∀ a : κ, ∃ l, keyOf P k (enc a) = some l) {es : Array MapEntry} (h1 : ∀ x ∈ es.toList, ∃ a, x.key = enc a) (a : κ) :
    ((Instr.findKey k (enc a) es.toList).run P w = .ok none w ∧ ∀ e ∈ es.toList, e.key ≠ enc a) ∨ ∃ j e, (Instr.findKey k (enc a) es.toList).run P w = .ok (some (j, e.val)) w ∧ es.toList[j]? = some e ∧ e.key = enc a := by
  obtain ⟨kl, hkl⟩ := hkey a
  refine K.find w hkl es.toList (fun e he => ?_)
  obtain ⟨c, hc⟩ := h1 e he
  rw [hc]
  exact hkey c
/-- m[a], with or without 'ok'. -/
theorem lookup_run (K : Keyed P k) (ht : P.underlying t = some (.map k E)) {z : Value} (hz : ∀ u : World, (zeroValue E).run P u = .ok z u) (hinj : ∀ a c : κ, enc a = enc c → a = c) (hkey : ∀ a : κ, ∃ l, keyOf P k (enc a) = some l)
    (h : OwnsV enc w b g) (a : κ) (ok : Bool) : (Instr.lookup t (.map (some b)) (enc a) ok).run P w = .ok (if ok then .tuple #[(g a).getD z, .bool (g a).isSome] else (g a).getD z) w := by
  obtain ⟨es, clock, hm, h1, h2, h3, h4, h5⟩ := h
  obtain ⟨kl, hkl⟩ := hkey a
  rcases find_key (w := w) K hkey h1 a with ⟨hf, hno⟩ | ⟨j, e0, hf, hj, he⟩
  · have hg : g a = none := by
      cases hga : g a with
      | none => rfl
      | some v => obtain ⟨x, hx, hxk, _⟩ := (h3 a v).1 hga; exact absurd hxk (hno x hx)
    rw [hg]
    simp [Instr.lookup, run_underlying ht, MapKept.run_getObj_map hm, K.check w _ hkl, hf, hz, Result.andThen]
  · have hg : g a = some e0.val := (h3 a _).2 ⟨e0, List.mem_of_getElem? hj, he, rfl⟩
    rw [hg]
    simp [Instr.lookup, run_underlying ht, MapKept.run_getObj_map hm, K.check w _ hkl, hf, Result.andThen]
theorem owns_push {es : Array MapEntry} {clock : Nat} {a : κ} (hinj : ∀ a c : κ, enc a = enc c → a = c) (hm : w.heap[b]? = some (.map es clock)) (h1 : ∀ x ∈ es.toList, ∃ a, x.key = enc a) (h2 : (es.toList.map (·.key)).Nodup)
    (h3 : ∀ a v, g a = some v ↔ ∃ x ∈ es.toList, x.key = enc a ∧ x.val = v) (h4 : ∀ x ∈ es.toList, x.born < clock) (h5 : (es.toList.map (·.born)).Nodup) (hno : ∀ e ∈ es.toList, e.key ≠ enc a) (v : Value) :
    OwnsV enc (setBlock w b (.map (es.push ⟨enc a, v, clock⟩) (clock + 1))) b (upd g a v) := by
  refine ⟨_, _, heap_setBlock_same hm _, ?_, ?_, ?_, ?_, ?_⟩
  · intro x hx
    rw [Array.toList_push] at hx
    rcases List.mem_append.1 hx with hx | hx
    · exact h1 x hx
    · rw [List.mem_singleton.1 hx]; exact ⟨a, rfl⟩
  · rw [Array.toList_push, List.map_append]
    refine List.nodup_append.2 ⟨h2, by simp, fun q hq c hc e1 => ?_⟩
    simp only [List.map_cons, List.map_nil, List.mem_singleton] at hc
    obtain ⟨x, hx, rfl⟩ := List.mem_map.1 hq
    exact hno x hx (e1.trans hc)
  · intro c u
    unfold upd
    rw [Array.toList_push]
    by_cases hc : c = a
    · rw [if_pos hc]
      constructor
      · intro e; injection e with e; exact ⟨⟨enc a, v, clock⟩, by simp, by rw [hc], e⟩
      · rintro ⟨x, hx, hxk, rfl⟩
        rcases List.mem_append.1 hx with hx | hx
        · exact absurd (hxk.trans (by rw [hc])) (hno x hx)
        · rw [List.mem_singleton.1 hx]
    · rw [if_neg hc, h3 c u]
      constructor
      · rintro ⟨x, hx, hxk, hv⟩; exact ⟨x, List.mem_append_left _ hx, hxk, hv⟩
      · rintro ⟨x, hx, hxk, hv⟩
        rcases List.mem_append.1 hx with hx | hx
        · exact ⟨x, hx, hxk, hv⟩
        · rw [List.mem_singleton.1 hx] at hxk; exact absurd (hinj _ _ hxk).symm hc
  · exact push_lt h4 _ _
  · exact push_nd h4 h5 _ _
/-- m[a] = v. -/
theorem update_run (K : Keyed P k) (ht : P.underlying t = some (.map k E)) (hinj : ∀ a c : κ, enc a = enc c → a = c) (hkey : ∀ a : κ, ∃ l, keyOf P k (enc a) = some l)
    (h : OwnsV enc w b g) (a : κ) (v : Value) : ∃ w1, (Instr.mapUpdate t (.map (some b)) (enc a) v).run P w = .ok () w1 ∧ OwnsV enc w1 b (upd g a v) ∧ w.grownBy w1 (some b) := by
  obtain ⟨es, clock, hm, h1, h2, h3, h4, h5⟩ := h
  obtain ⟨kl, hkl⟩ := hkey a
  rcases find_key (w := w) K hkey h1 a with ⟨hf, hno⟩ | ⟨j, e0, hf, hj, he⟩
  · refine ⟨setBlock w b (.map (es.push ⟨enc a, v, clock⟩) (clock + 1)), ?_, owns_push hinj hm h1 h2 h3 h4 h5 hno v, grown_block hm⟩
    simp [Instr.mapUpdate, run_underlying ht, MapKept.run_getObj_map hm, K.check w false hkl, hf, MapKept.run_setObj_map _ hm, Result.andThen, setBlock]
  · have hj' : es[j]? = some e0 := by simpa using hj
    have hjl : j < es.toList.length := (List.getElem?_eq_some_iff.1 hj).1
    have htl : (es.modify j (fun e => { e with key := enc a, val := v })).toList = es.toList.set j { e0 with key := enc a, val := v } := by rw [Array.toList_modify, modify_eq_set _ _ _ _ hj]
    have hset : ∀ i x, (es.toList.set j { e0 with key := enc a, val := v })[i]? = some x → (i = j ∧ x = { e0 with key := enc a, val := v }) ∨ (i ≠ j ∧ es.toList[i]? = some x) := by
      intro i x hx
      rw [List.getElem?_set] at hx
      by_cases h : j = i
      · rw [if_pos h, if_pos hjl] at hx
        exact .inl ⟨h.symm, (Option.some.inj hx).symm⟩
      · rw [if_neg h] at hx
        exact .inr ⟨fun e => h e.symm, hx⟩
    have huniq : ∀ i x, es.toList[i]? = some x → x.key = enc a → i = j := by
      intro i x hx hk
      have e1 : (es.toList.map (·.key))[i]? = some (enc a) := by rw [List.getElem?_map, hx]; simp [hk]
      have e2 : (es.toList.map (·.key))[j]? = some (enc a) := by rw [List.getElem?_map, hj]; simp [he]
      exact (List.getElem?_inj (by rw [List.length_map]; exact (List.getElem?_eq_some_iff.1 hx).1) h2).1 (e1.trans e2.symm)
    refine ⟨setBlock w b (.map (es.modify j (fun e => { e with key := enc a, val := v })) clock), ?_, ⟨_, _, heap_setBlock_same hm _, ?_, ?_, ?_, ?_, ?_⟩, grown_block hm⟩
    · simp [Instr.mapUpdate, run_underlying ht, MapKept.run_getObj_map hm, K.check w false hkl, hf, hj', he, K.stays w hkl, MapKept.run_setObj_map _ hm, Result.andThen, setBlock]
    · rw [htl]
      intro x hx
      obtain ⟨i, hi⟩ := List.getElem?_of_mem hx
      rcases hset i x hi with ⟨_, rfl⟩ | ⟨_, h⟩
      · exact ⟨a, rfl⟩
      · exact h1 x (List.mem_of_getElem? h)
    · rw [htl]
      have : (es.toList.set j { e0 with key := enc a, val := v }).map (·.key) = es.toList.map (·.key) := by
        apply List.ext_getElem?
        intro i
        rw [List.getElem?_map, List.getElem?_map, List.getElem?_set]
        by_cases h : j = i
        · subst h
          rw [if_pos rfl, if_pos hjl, hj]
          simp [he]
        · rw [if_neg h]
      rw [this]
      exact h2
    · intro c u
      unfold upd
      rw [htl]
      by_cases hc : c = a
      · rw [if_pos hc]
        constructor
        · intro e
          injection e with e
          refine ⟨{ e0 with key := enc a, val := v }, ?_, by rw [hc], e⟩
          exact List.mem_of_getElem? (i := j) (by rw [List.getElem?_set, if_pos rfl, if_pos hjl])
        · rintro ⟨x, hx, hxk, rfl⟩
          obtain ⟨i, hi⟩ := List.getElem?_of_mem hx
          rcases hset i x hi with ⟨_, rfl⟩ | ⟨hij, h⟩
          · rfl
          · exact absurd (huniq i x h (hxk.trans (by rw [hc]))) hij
      · rw [if_neg hc, h3 c u]
        constructor
        · rintro ⟨x, hx, hxk, hv⟩
          obtain ⟨i, hi⟩ := List.getElem?_of_mem hx
          refine ⟨x, List.mem_of_getElem? (i := i) ?_, hxk, hv⟩
          rw [List.getElem?_set]
          by_cases h : j = i
          · subst h
            rw [hj] at hi
            injection hi with hi
            rw [← hi, he] at hxk
            exact absurd (hinj _ _ hxk).symm hc
          · rw [if_neg h]; exact hi
        · rintro ⟨x, hx, hxk, hv⟩
          obtain ⟨i, hi⟩ := List.getElem?_of_mem hx
          rcases hset i x hi with ⟨_, rfl⟩ | ⟨hij, h⟩
          · exact absurd (hinj _ _ hxk).symm hc
          · exact ⟨x, List.mem_of_getElem? h, hxk, hv⟩
    · rw [htl]
      intro x hx
      obtain ⟨i, hi⟩ := List.getElem?_of_mem hx
      rcases hset i x hi with ⟨_, rfl⟩ | ⟨_, h⟩
      · exact h4 e0 (List.mem_of_getElem? hj)
      · exact h4 x (List.mem_of_getElem? h)
    · rw [htl]
      have : (es.toList.set j { e0 with key := enc a, val := v }).map (·.born) = es.toList.map (·.born) := by
        apply List.ext_getElem?
        intro i
        rw [List.getElem?_map, List.getElem?_map, List.getElem?_set]
        by_cases h : j = i
        · subst h
          rw [if_pos rfl, if_pos hjl, hj]
          simp
        · rw [if_neg h]
      rw [this]
      exact h5
/-- The way back from an entry to the store behind. -/
def BackV (P : Program) (enc : κ → Value) (t : TypeId) (b : Nat) (g : κ → Option Value) (a : κ) (w1 : World) (st : Nat) : Prop :=
  ∀ (w2 : World) (v : Value), w2.heap[b]? = w1.heap[b]? → ∃ w3, (Instr.entryStore t (.map (some b)) (goInt st) v).run P w2 = .ok () w3 ∧ OwnsV enc w3 b (upd g a v) ∧ w2.grownBy w3 (some b)
theorem store_back {es : Array MapEntry} {clock j : Nat} {e1 : MapEntry} {a : κ} (hinj : ∀ a c : κ, enc a = enc c → a = c) {w1 : World} (hm : w1.heap[b]? = some (.map es clock)) (h1 : ∀ x ∈ es.toList, ∃ a, x.key = enc a) (h2 : (es.toList.map (·.key)).Nodup) {g : κ → Option Value}
    (h3 : ∀ c v, c ≠ a → (g c = some v ↔ ∃ x ∈ es.toList, x.key = enc c ∧ x.val = v)) (h4 : ∀ x ∈ es.toList, x.born < clock) (h5 : (es.toList.map (·.born)).Nodup) (hj : es.toList[j]? = some e1) (he : e1.key = enc a) : BackV P enc t b g a w1 e1.born := by
  intro w2 v hb
  have hw2 : w2.heap[b]? = some (.map es clock) := hb.trans hm
  have hi : es.findIdx? (fun e => ((e.born : Nat) : Int) == ((e1.born : Nat) : Int)) = some j := by
    rw [Go.WideElems.findIdx_arr]
    exact Go.WideElems.findIdx_born h5 hj
  have htl : (es.modify j (fun e => { e with val := v })).toList = es.toList.set j { e1 with val := v } := by rw [Array.toList_modify, modify_eq_set _ _ _ _ hj]
  have hjl : j < es.toList.length := (List.getElem?_eq_some_iff.1 hj).1
  have hset : ∀ i x, (es.toList.set j { e1 with val := v })[i]? = some x → (i = j ∧ x = { e1 with val := v }) ∨ (i ≠ j ∧ es.toList[i]? = some x) := by
    intro i x hx
    rw [List.getElem?_set] at hx
    by_cases h : j = i
    · rw [if_pos h, if_pos hjl] at hx
      exact .inl ⟨h.symm, (Option.some.inj hx).symm⟩
    · rw [if_neg h] at hx
      exact .inr ⟨fun e => h e.symm, hx⟩
  have hmap : ∀ {β : Type} (f : MapEntry → β), f { e1 with val := v } = f e1 → (es.toList.set j { e1 with val := v }).map f = es.toList.map f := by
    intro β f hf
    apply List.ext_getElem?
    intro i
    rw [List.getElem?_map, List.getElem?_map, List.getElem?_set]
    by_cases h : j = i
    · subst h
      rw [if_pos rfl, if_pos hjl, hj]
      simp [hf]
    · rw [if_neg h]
  have huniq : ∀ i x, es.toList[i]? = some x → x.key = enc a → i = j := by
    intro i x hx hk
    have q1 : (es.toList.map (·.key))[i]? = some (enc a) := by rw [List.getElem?_map, hx]; simp [hk]
    have q2 : (es.toList.map (·.key))[j]? = some (enc a) := by rw [List.getElem?_map, hj]; simp [he]
    exact (List.getElem?_inj (by rw [List.length_map]; exact (List.getElem?_eq_some_iff.1 hx).1) h2).1 (q1.trans q2.symm)
  refine ⟨setBlock w2 b (.map (es.modify j (fun e => { e with val := v })) clock), ?_, ⟨_, _, heap_setBlock_same hw2 _, ?_, ?_, ?_, ?_, ?_⟩, grown_block hw2⟩
  · simp [Instr.entryStore, MapKept.run_getObj_map hw2, asInt, asIntOf, goInt, hi, MapKept.run_setObj_map _ hw2, Result.andThen, setBlock]
  · rw [htl]
    intro x hx
    obtain ⟨i, hi⟩ := List.getElem?_of_mem hx
    rcases hset i x hi with ⟨_, rfl⟩ | ⟨_, h⟩
    · exact ⟨a, he⟩
    · exact h1 x (List.mem_of_getElem? h)
  · rw [htl, hmap _ rfl]; exact h2
  · intro c u
    unfold upd
    rw [htl]
    by_cases hc : c = a
    · rw [if_pos hc]
      constructor
      · intro e
        injection e with e
        exact ⟨{ e1 with val := v }, List.mem_of_getElem? (i := j) (by rw [List.getElem?_set, if_pos rfl, if_pos hjl]), by rw [hc]; exact he, e⟩
      · rintro ⟨x, hx, hxk, rfl⟩
        obtain ⟨i, hi⟩ := List.getElem?_of_mem hx
        rcases hset i x hi with ⟨_, rfl⟩ | ⟨hij, h⟩
        · rfl
        · exact absurd (huniq i x h (hxk.trans (by rw [hc]))) hij
    · rw [if_neg hc, h3 c u hc]
      constructor
      · rintro ⟨x, hx, hxk, hv⟩
        obtain ⟨i, hi⟩ := List.getElem?_of_mem hx
        refine ⟨x, List.mem_of_getElem? (i := i) ?_, hxk, hv⟩
        rw [List.getElem?_set]
        by_cases h : j = i
        · subst h
          rw [hj] at hi
          injection hi with hi
          rw [← hi, he] at hxk
          exact absurd (hinj _ _ hxk).symm hc
        · rw [if_neg h]; exact hi
      · rintro ⟨x, hx, hxk, hv⟩
        obtain ⟨i, hi⟩ := List.getElem?_of_mem hx
        rcases hset i x hi with ⟨_, rfl⟩ | ⟨hij, h⟩
        · exact absurd (hinj _ _ (he.symm.trans hxk)).symm hc
        · exact ⟨x, List.mem_of_getElem? h, hxk, hv⟩
  · rw [htl]
    intro x hx
    obtain ⟨i, hi⟩ := List.getElem?_of_mem hx
    rcases hset i x hi with ⟨_, rfl⟩ | ⟨_, h⟩
    · exact h4 e1 (List.mem_of_getElem? hj)
    · exact h4 x (List.mem_of_getElem? h)
  · rw [htl, hmap _ rfl]; exact h5
/-- m[a] op= ..: the entry, and the store behind. -/
theorem entry_run (K : Keyed P k) (ht : P.underlying t = some (.map k E)) {z : Value} (hz : ∀ u : World, (zeroValue E).run P u = .ok z u) (hinj : ∀ a c : κ, enc a = enc c → a = c) (hkey : ∀ a : κ, ∃ l, keyOf P k (enc a) = some l)
    (h : OwnsV enc w b g) (a : κ) : ∃ (v0 : Value) (st : Nat) (w1 : World) (g1 : κ → Option Value), (Instr.mapEntry t (.map (some b)) (enc a)).run P w = .ok (.tuple #[v0, goInt st]) w1 ∧ w.grownBy w1 (some b) ∧ BackV P enc t b g a w1 st ∧ OwnsV enc w1 b g1 ∧ ∀ c, (g1 c).getD z = (g c).getD z := by
  obtain ⟨es, clock, hm, h1, h2, h3, h4, h5⟩ := h
  obtain ⟨kl, hkl⟩ := hkey a
  rcases find_key (w := w) K hkey h1 a with ⟨hf, hno⟩ | ⟨j, e0, hf, hj, he⟩
  · have hga : g a = none := by
      cases hga : g a with
      | none => rfl
      | some v => obtain ⟨x, hx, hxk, _⟩ := (h3 a v).1 hga; exact absurd hxk (hno x hx)
    refine ⟨z, clock, setBlock w b (.map (es.push ⟨enc a, z, clock⟩) (clock + 1)), upd g a z, ?_, grown_block hm, ?_, owns_push hinj hm h1 h2 h3 h4 h5 hno z, fun c => by unfold upd; by_cases q : c = a; (rw [if_pos q, q, hga]; rfl); rw [if_neg q]⟩
    · simp [Instr.mapEntry, run_underlying ht, MapKept.run_getObj_map hm, K.check w false hkl, hf, hz, MapKept.run_setObj_map _ hm, Result.andThen, setBlock]
    · refine store_back (e1 := ⟨enc a, z, clock⟩) (j := es.toList.length) hinj (heap_setBlock_same hm _) ?_ ?_ ?_ (push_lt h4 _ _) (push_nd h4 h5 _ _) (by rw [Array.toList_push, List.getElem?_append_right (Nat.le_refl _)]; simp) rfl
      · intro x hx
        rw [Array.toList_push] at hx
        rcases List.mem_append.1 hx with hx | hx
        · exact h1 x hx
        · rw [List.mem_singleton.1 hx]; exact ⟨a, rfl⟩
      · rw [Array.toList_push, List.map_append]
        refine List.nodup_append.2 ⟨h2, by simp, fun q hq c hc e1 => ?_⟩
        simp only [List.map_cons, List.map_nil, List.mem_singleton] at hc
        obtain ⟨x, hx, rfl⟩ := List.mem_map.1 hq
        exact hno x hx (e1.trans hc)
      · intro c u hc
        rw [h3 c u, Array.toList_push]
        constructor
        · rintro ⟨x, hx, hxk, hv⟩; exact ⟨x, List.mem_append_left _ hx, hxk, hv⟩
        · rintro ⟨x, hx, hxk, hv⟩
          rcases List.mem_append.1 hx with hx | hx
          · exact ⟨x, hx, hxk, hv⟩
          · rw [List.mem_singleton.1 hx] at hxk; exact absurd (hinj _ _ hxk).symm hc
  · have hj' : es[j]? = some e0 := by simpa using hj
    have hsame : es.modify j (fun e => { e with key := enc a }) = es := by
      apply Array.ext'
      rw [Array.toList_modify, modify_eq_set _ _ _ _ hj]
      have : ({ e0 with key := enc a } : MapEntry) = e0 := by rw [← he]
      rw [this]
      exact Go.WideElems.set_self _ _ _ hj
    refine ⟨e0.val, e0.born, setBlock w b (.map es clock), g, ?_, grown_block hm, ?_, ⟨es, clock, heap_setBlock_same hm _, h1, h2, h3, h4, h5⟩, fun c => rfl⟩
    · simp [Instr.mapEntry, run_underlying ht, MapKept.run_getObj_map hm, K.check w false hkl, hf, hj', he, K.stays w hkl, hsame, MapKept.run_setObj_map _ hm, Result.andThen, setBlock]
    · exact store_back hinj (heap_setBlock_same hm _) h1 h2 (fun c u _ => h3 c u) h4 h5 hj he
end
end
section
variable {P : Program} {κ : Type} [DecidableEq κ] {enc : κ → Value} {k : TypeId} {ops : Array Oper} {rest : List Oper} {o : Oper} {a : Act} {Q : Exit → Act → World → Prop}
theorem wpList_look {W : World} (hgd : o.guard = none) (m x : Operand) (t : TypeId) (ok : Bool) (ho : o.op = .lookup t m x ok) {E : TypeId} {b : Nat} {g : κ → Option Value} (K : Go.Maps.Keyed P k) (ht : P.underlying t = some (.map k E)) {z : Value} (hz : ∀ u : World, (zeroValue E).run P u = .ok z u)
    (hinj : ∀ a c : κ, enc a = enc c → a = c) (hkey : ∀ a : κ, ∃ l, keyOf P k (enc a) = some l) (h : OwnsV enc W b g) (c : κ) (hm : a.eval m = .map (some b)) (hx : a.eval x = enc c)
    (hK : wpList P ops Q rest (a.put o.dst (if ok then .tuple #[(g c).getD z, .bool (g c).isSome] else (g c).getD z)) W) :
    wpList P ops Q (o :: rest) a W := by
  refine wpList_plain hgd fun K' hK' => ?_
  have hrun := lookup_run K ht hz hinj hkey h c ok
  generalize (if ok then Value.tuple #[(g c).getD z, .bool (g c).isSome] else (g c).getD z) = r at hrun hK
  unfold Oper.wp
  simp [execOp, ho, hm, hx, hrun, Result.andThen]
  exact hK' _ _ hK
theorem wpList_ent {W : World} (hgd : o.guard = none) (m x : Operand) (t : TypeId) (ho : o.op = .mapEntry t m x) {E : TypeId} {b : Nat} {g : κ → Option Value} (K : Go.Maps.Keyed P k) (ht : P.underlying t = some (.map k E)) {z : Value} (hz : ∀ u : World, (zeroValue E).run P u = .ok z u)
    (hinj : ∀ a c : κ, enc a = enc c → a = c) (hkey : ∀ a : κ, ∃ l, keyOf P k (enc a) = some l) (h : OwnsV enc W b g) (c : κ) (hm : a.eval m = .map (some b)) (hx : a.eval x = enc c)
    (hK : ∀ (v0 : Value) (st : Nat) (w1 : World) (g1 : κ → Option Value), W.grownBy w1 (some b) → BackV P enc t b g c w1 st → OwnsV enc w1 b g1 → (∀ c, (g1 c).getD z = (g c).getD z) → wpList P ops Q rest (a.put o.dst (.tuple #[v0, .int .i64 (st : Int)])) w1) :
    wpList P ops Q (o :: rest) a W := by
  refine wpList_plain hgd fun K' hK' => ?_
  obtain ⟨v0, st, w1, g1, hrun, hg, hback, hown, hsame⟩ := entry_run K ht hz hinj hkey h c
  unfold Oper.wp
  simp [execOp, ho, hm, hx, hrun, Result.andThen]
  exact hK' _ _ (hK v0 st w1 g1 hg hback hown hsame)
theorem wpList_sto {W : World} (hgd : o.guard = none) (m x v : Operand) (t : TypeId) (ho : o.op = .entryStore t m x v) {b : Nat} {g : κ → Option Value} {c : κ} {w1 : World} {u : Value} {st : Nat}
    (hback : BackV P enc t b g c w1 st) (hm : a.eval m = .map (some b)) (hx : a.eval x = .int .i64 (st : Int)) (hv : a.eval v = u) (hb : W.heap[b]? = w1.heap[b]?)
    (hK : ∀ w3, OwnsV enc w3 b (upd g c u) → W.grownBy w3 (some b) → wpList P ops Q rest (a.put o.dst undef) w3) : wpList P ops Q (o :: rest) a W := by
  refine wpList_plain hgd fun K' hK' => ?_
  obtain ⟨w3, hrun, h1, h2⟩ := hback W u hb
  rw [show goInt (st : Int) = .int .i64 (st : Int) from rfl] at hrun
  unfold Oper.wp
  simp [execOp, ho, hm, hx, hv, hrun, Result.andThen]
  exact hK' _ _ (hK w3 h1 h2)
theorem wpList_upd {W : World} (hgd : o.guard = none) (m x v : Operand) (t : TypeId) (ho : o.op = .mapUpdate t m x v) {E : TypeId} {b : Nat} {g : κ → Option Value} (K : Go.Maps.Keyed P k) (ht : P.underlying t = some (.map k E))
    (hinj : ∀ a c : κ, enc a = enc c → a = c) (hkey : ∀ a : κ, ∃ l, keyOf P k (enc a) = some l) (h : OwnsV enc W b g) (c : κ) (u : Value) (hm : a.eval m = .map (some b)) (hx : a.eval x = enc c) (hv : a.eval v = u)
    (hK : ∀ w1, OwnsV enc w1 b (upd g c u) → W.grownBy w1 (some b) → wpList P ops Q rest (a.put o.dst undef) w1) : wpList P ops Q (o :: rest) a W := by
  refine wpList_plain hgd fun K' hK' => ?_
  obtain ⟨w1, hrun, h1, h2⟩ := update_run K ht hinj hkey h c u
  unfold Oper.wp
  simp [execOp, ho, hm, hx, hv, hrun, Result.andThen]
  exact hK' _ _ (hK w1 h1 h2)
end
end Go.Proofs.Ytlfcepdaicngjaa.MapV

/- The keys of a code's map: word{length, number}. -/
namespace Go.Proofs.Ytlfcepdaicngjaa.Pk
set_option linter.unusedVariables false
set_option linter.unusedSimpArgs false
open Go Go.RowKit Go.Proofs.Ytlfcepdaicngjaa.MapV Go.Proofs.YtlfcepdaicngjaaW.PrintWords Go.Proofs.YtlfcepdaicngjaaW.PrintLast Go.Proofs.YtlfcepdaicngjaaW.PrintMore
abbrev Wd := UInt8 × UInt32
def encW (t : Wd) : Value := .agg #[.int .u8 (t.1.toNat : Int), .int .u32 (t.2.toNat : Int)]
theorem encW_inj : ∀ a c : Wd, encW a = encW c → a = c := by
  intro a c h
  unfold encW at h
  injection h with h
  injection h with h
  simp only [List.cons.injEq, Value.int.injEq, true_and, Int.natCast_inj, and_true] at h
  obtain ⟨h1, h2⟩ := h
  exact Prod.ext (UInt8.toNat_inj.1 h1) (UInt32.toNat_inj.1 h2)
theorem laidOut : laidOutB Try.prog = true := by kernel_rfl
theorem rowW : (68 : TypeId) < Try.prog.types.size := of_decide_eq_true (by kernel_rfl)
theorem wideW : (match Try.prog.underlying 68 with | some (.array _ _) | some (.struct _) => true | _ => false) = true := by rw [Try.underlying68]
theorem keyedW : Go.Maps.Keyed Try.prog 68 := Go.Maps.Keyed.of_law (deep_law_laid laidOut (m := 2) (by omega) rowW (by kernel_rfl) wideW)
theorem cellsW : Try.prog.cellsOf 68 = 2 := by kernel_rfl
theorem cells5 : Try.prog.cellsOf 5 = 1 := by kernel_rfl
theorem cells60 : Try.prog.cellsOf 60 = 1 := by kernel_rfl
theorem keyTW : Try.prog.keyType 68 = true := by kernel_rfl
theorem zeroI (u : World) : (zeroValue 3).run Try.prog u = .ok (.int .i64 0) u := by kernel_rfl
theorem wf_b8 (a : UInt8) : (Lit.int .u8 (a.toNat : Int)).wf = true := by
  have := a.toNat_lt
  simp [Lit.wf, IntKind.min, IntKind.max, IntKind.signed, IntKind.bits]
  omega
theorem wf_b32 (a : UInt32) : (Lit.int .u32 (a.toNat : Int)).wf = true := by
  have := a.toNat_lt
  simp [Lit.wf, IntKind.min, IntKind.max, IntKind.signed, IntKind.bits]
  omega
theorem key_okW : ∀ t : Wd, ∃ l, keyOf Try.prog 68 (encW t) = some l := by
  intro t
  obtain ⟨d, hd⟩ : ∃ d, Try.prog.types.size + 1 = d + 2 := ⟨Try.prog.types.size - 1, by have h : (0 : Nat) < Try.prog.types.size := Nat.lt_of_le_of_lt (Nat.zero_le _) rowW; omega⟩
  suffices h : ∃ ls, Try.prog.keyLits (Try.prog.types.size + 1) 68 (encW t).cells.toList = some ls by
    obtain ⟨ls, h⟩ := h
    unfold keyOf
    rw [Try.underlying68]
    simp only [keyTW, Bool.true_and]
    rw [if_pos (by simp [Value.formed, encW, Try.underlying68, cellsW]), h]
    exact ⟨_, rfl⟩
  rw [hd]
  unfold encW
  simp [Program.keyLits, Try.underlying68, cellsW, cells5, cells60, Try.underlying5, Try.underlying60, Value.cells, List.range, List.range.loop, wf_b8, wf_b32]
/-- The key of a length and a number. -/
def wd (x v : Int) : Wd := (UInt8.ofNat x.toNat, UInt32.ofNat v.toNat)
theorem enc_wd (x v : Int) (h0 : 0 ≤ x) (h1 : x < 256) (h2 : 0 ≤ v) (h3 : v < 4294967296) : encW (wd x v) = .agg #[.int .u8 x, .int .u32 v] := by
  unfold encW wd
  have e1 : ((UInt8.ofNat x.toNat).toNat : Int) = x := by rw [UInt8.toNat_ofNat']; omega
  have e2 : ((UInt32.ofNat v.toNat).toNat : Int) = v := by rw [UInt32.toNat_ofNat']; omega
  rw [e1, e2]
end Go.Proofs.Ytlfcepdaicngjaa.Pk

/- prefix.New: a code of lengths: the walk. -/
namespace Go.Proofs.Ytlfcepdaicngjaa.Pk
set_option linter.unusedVariables false
set_option linter.unusedSimpArgs false
open Go Go.RowKit Go.Proofs.Ytlfcepdaicngjaa.P Go.Proofs.Ytlfcepdaicngjaa.MapV Go.Proofs.YtlfcepdaicngjaaW.PrintWords Go.Proofs.YtlfcepdaicngjaaW.PrintLast Go.Proofs.YtlfcepdaicngjaaW.PrintMore
/-- What the map of signs tells of the first j lengths. -/
def signsG (ls ws : List Int) : Nat → (Wd → Option Value)
  | 0 => fun _ => none
  | j + 1 => if ls.getD j 0 > 0 then upd (signsG ls ws j) (wd (ls.getD j 0) (ws.getD j 0)) (.int .i64 j) else signsG ls ws j
/-- The longest of the first j lengths. -/
def mostW (ls : List Int) : Nat → Int
  | 0 => 0
  | j + 1 => if ls.getD j 0 > 0 then max (mostW ls j) (ls.getD j 0) else mostW ls j
/-- A code in memory. -/
def IsCode (w : World) (p : Nat) (ls ws : List Int) : Prop :=
  ∃ A1 c1 A2 c2 b, w.heap[p]? = some (.cells #[.slice A1 ls.length c1, .slice A2 ws.length c2, .map (some b), .int .i64 (mostW ls ls.length)] 66 (0, 0)) ∧ Kd.C (Kd.int .u8) w A1 ls.length ls ∧ Kd.C (Kd.int .u32) w A2 ws.length ws ∧ OwnsV encW w b (signsG ls ws ls.length)
theorem mostW_range (ls : List Int) (h : ∀ x ∈ ls, 0 ≤ x ∧ x ≤ 15) : ∀ j, j ≤ ls.length → 0 ≤ mostW ls j ∧ mostW ls j ≤ 15
  | 0, _ => by simp [mostW]
  | j + 1, hj => by
    have ih := mostW_range ls h j (by omega)
    have hx := h _ (List.getElem_mem (show j < ls.length by omega))
    rw [mostW, List.getD_eq_getElem?_getD, List.getElem?_eq_getElem (show j < ls.length by omega), Option.getD_some]
    split <;> omega
theorem set_tail (a b c x y : Value) (t : Nat) (w : World) (g : Nat) (h : w.heap[g]? = some (.cells #[a, b, c, x] t (0, 0))) : (w.setCell ⟨g, 3, none⟩ y).heap[g]? = some (.cells #[a, b, c, y] t (0, 0)) := by
  have := blk_set h 3 y
  rw [this]; rfl
attribute [local go_sem] max2_int min2_int max_two min_two
set_option maxHeartbeats 8000000 in
set_option maxRecDepth 100000 in
theorem new_ok (A0 : Option Addr) (c0 : Nat) (l0 ws : List Int) (n : Int) (o : Bool) (w : World) (hr0 : Kd.C (Kd.int .u8) w A0 l0.length l0) (hc0 : l0.length ≤ c0)
    (hW : prefix_Words.f l0 = some (ws, 0)) (hF : prefix_Fill.f 5000 l0 = some (n, 0)) (hlen : l0.length ≤ 4096) (hws : ws.length = l0.length) (hls : ∀ x ∈ l0, 0 ≤ x ∧ x ≤ 15) (hwr : ∀ v ∈ ws, 0 ≤ v ∧ v < 4294967296)
    (hcond : 32768 ≤ n ∨ n < 32768 ∧ o = true ∧ prefix_few.f 5000 l0 = some true) :
    Calls Try.prog 8 #[.slice A0 l0.length c0, .bool o] w fun e w' => ∃ p, w.heap.size ≤ p ∧ e = .returned (.tuple #[.pointer (some ⟨p, 0, none⟩), .int .i64 0]) ∧ IsCode w' p l0 ws ∧ Below w.heap.size w w' := by
  have HW := Aside0.mk hW
  have HF := Aside0.mk hF
  have HR := Aside0.mk hr0
  have HC := Aside0.mk hc0
  have HLS := Aside0.mk hls
  have HWR := Aside0.mk hwr
  have HWS := Aside0.mk hws
  have HLEN := Aside0.mk hlen
  clear hW hF hr0 hc0 hls hwr hws hlen
  rcases hcond with hA | ⟨hA, rfl, hfew⟩
  case' inl =>
    have hb1 : decide (n < 32768) = false := decide_eq_false (by omega)
    clear hA
    go_enter Try.func8, Try.ntmps8
    go_upto_region 7 with (first
      | (go_at_call 21; refine (prefix_Words.calls _ _ l0 _ _ _ HR.out HC.out HW.out).mono ?_; rintro e w1 ⟨vw, rfl, hrw, hbw⟩; obtain ⟨A2, c2, rfl, _, hrw⟩ := Kd.R_reads hrw; have HRW := Aside0.mk hrw; have HB := Aside0.mk hbw; clear hrw hbw)
      | (go_at_call 22; refine (prefix_Fill.calls 5000 _ _ l0 _ _ _ (Kd.C_below HR.out HB.out) HC.out HF.out).mono ?_; rintro e w2 ⟨rfl, ⟨nd, rfl⟩⟩))
  case' inr =>
    have hb1 : decide (n < 32768) = true := decide_eq_true hA
    have HFEW := Aside0.mk hfew
    clear hA hfew
    go_enter Try.func8, Try.ntmps8
    go_upto_region 7 with (first
      | (go_at_call 21; refine (prefix_Words.calls _ _ l0 _ _ _ HR.out HC.out HW.out).mono ?_; rintro e w1 ⟨vw, rfl, hrw, hbw⟩; obtain ⟨A2, c2, rfl, _, hrw⟩ := Kd.R_reads hrw; have HRW := Aside0.mk hrw; have HB := Aside0.mk hbw; clear hrw hbw)
      | (go_at_call 22; refine (prefix_Fill.calls 5000 _ _ l0 _ _ _ (Kd.C_below HR.out HB.out) HC.out HF.out).mono ?_; rintro e w2 ⟨rfl, ⟨nd0, rfl⟩⟩)
      | (go_at_call 23; refine (prefix_few.calls 5000 _ _ l0 _ _ (Kd.C_below (Kd.C_below HR.out HB.out) (pw_below_drewN (Below.refl _ _) _)) HC.out HFEW.out).mono ?_; rintro e w2 ⟨rfl, ⟨nd1, rfl⟩⟩))
    obtain ⟨nd, hnd⟩ : ∃ nd, nd0 + nd1 = nd := ⟨_, rfl⟩
    rw [hnd]
    clear hnd
  all_goals (
    have hmm := @run_makeMap Try.prog
    have hclone : slices_Clone_uint8_uint8.f l0 = some l0 := by unfold slices_Clone_uint8_uint8.f; rw [if_pos (by have := HLEN.out; omega)]
    have HCL := Aside0.mk hclone
    clear hclone
    go_upto_region 8 with (go_at_call 24; refine (slices_Clone_uint8_uint8.calls _ _ l0 _ _ (Kd.C_below (Kd.C_below HR.out HB.out) (pw_below_drewN (Below.refl _ _) _)) HC.out HCL.out).mono ?_; rintro e w3 ⟨vc, rfl, hrc, hbc⟩; obtain ⟨A1, c1, rfl, _, hrc⟩ := Kd.R_reads hrc; have HRC := Aside0.mk hrc; have HBC := Aside0.mk hbc; clear hrc hbc)
    clear hmm
    have HS3 := Aside0.mk (below_step (pw_below_drewN HB.out nd) HBC.out)
    have HA1 := Aside0.mk HRC.out
    have HA2 := Aside0.mk (Kd.C_below (Kd.C_drewN HRW.out nd) HBC.out)
    have HM := Aside0.mk (OwnsV.below (MapV.made (enc := encW) w3) (below_alloc (Below.refl (w3.alloc (.map #[] 0)).heap.size (w3.alloc (.map #[] 0))) (.cells #[.slice A1 l0.length c1, .slice A2 ws.length c2, .map (some w3.heap.size), .int .i64 0] 66)))
    have HP := Aside0.mk (heap_alloc_new (w3.alloc (.map #[] 0)) (.cells #[.slice A1 l0.length c1, .slice A2 ws.length c2, .map (some w3.heap.size), .int .i64 0] 66))
    have HB3 := Aside0.mk (below_alloc (below_alloc (Below.refl w3.heap.size w3) (.map #[] 0)) (.cells #[.slice A1 l0.length c1, .slice A2 ws.length c2, .map (some w3.heap.size), .int .i64 0] 66))
    have hs1 : (w3.alloc (.map #[] 0)).heap.size = w3.heap.size + 1 := by simp
    rw [hs1] at HP
    generalize (w3.alloc (.map #[] 0)).alloc (.cells #[.slice A1 l0.length c1, .slice A2 ws.length c2, .map (some w3.heap.size), .int .i64 0] 66) = wl at HM HP HB3 ⊢
    clear hs1
    obtain ⟨gp, hgp⟩ : ∃ g, w3.heap.size + 1 = g := ⟨_, rfl⟩
    rw [hgp] at HP ⊢
    have hle3 : w.heap.size ≤ w3.heap.size := HS3.out.size
    have HG := Aside0.mk (show gp = w3.heap.size + 1 ∧ w.heap.size ≤ w3.heap.size from ⟨hgp.symm, hle3⟩)
    clear hgp hle3 HRW HRC HBC HB HCL
    have hlen := HLEN.out
    have hwl := HWS.out
    go_wp2
    go_loopw [44] (fun v44 wr => ∃ j : Nat, v44 = .int .i64 j ∧ j ≤ l0.length ∧ Aside0 (OwnsV encW wr w3.heap.size (signsG l0 ws j)) ∧ Aside0 (wr.heap[gp]? = some (.cells #[.slice A1 l0.length c1, .slice A2 ws.length c2, .map (some w3.heap.size), .int .i64 (mostW l0 j)] 66 (0, 0))) ∧ Aside0 (Below w3.heap.size w3 wr))
      (fun v _ => l0.length - (intOf v).toNat)
    case atStart => exact ⟨0, rfl, by omega, HM, HP, HB3⟩
    case round =>
      clear HM HP HB3
      obtain ⟨j, rfl, hj, HM, HP, HB3⟩ := hrel
      by_cases hlt : j < l0.length
      · have hd : decide (j < l0.length) = true := decide_eq_true hlt
        have hd2 : decide (j < ws.length) = true := decide_eq_true (by omega)
        obtain ⟨ad, hA, hx⟩ := Kd.at_int HR.out (j : Int) (by omega) (by omega)
        cases hA
        replace hx := ((below_step HS3.out HB3.out).cell (World.block_lt_of_cell? w _ hx)).trans hx
        have hg : rd l0 (j : Int) = l0[j] := by unfold rd; rw [List.getD_eq_getElem?_getD, Int.toNat_natCast, List.getElem?_eq_getElem hlt]; rfl
        rw [hg] at hx
        simp only [Int.toNat_natCast] at hx
        obtain ⟨ad2, hA2, hy⟩ := Kd.at_int HA2.out (j : Int) (by omega) (by omega)
        cases hA2
        replace hy := (HB3.out.cell (World.block_lt_of_cell? w3 _ hy)).trans hy
        have hg2 : rd ws (j : Int) = ws[j]'(by omega) := by unfold rd; rw [List.getD_eq_getElem?_getD, Int.toNat_natCast, List.getElem?_eq_getElem (by omega)]; rfl
        rw [hg2] at hy
        simp only [Int.toNat_natCast] at hy
        have hr := HLS.out _ (List.getElem_mem hlt)
        have hr2 := HWR.out _ (List.getElem_mem (show j < ws.length by omega))
        have hsn : signsG l0 ws (j + 1) = if l0[j] > 0 then upd (signsG l0 ws j) (wd l0[j] (ws[j]'(by omega))) (.int .i64 j) else signsG l0 ws j := by
          rw [signsG, List.getD_eq_getElem?_getD, List.getElem?_eq_getElem hlt, Option.getD_some, List.getD_eq_getElem?_getD, List.getElem?_eq_getElem (by omega), Option.getD_some]
        have hmn : mostW l0 (j + 1) = if l0[j] > 0 then max (mostW l0 j) l0[j] else mostW l0 j := by
          rw [mostW, List.getD_eq_getElem?_getD, List.getElem?_eq_getElem hlt, Option.getD_some]
        have hmr := mostW_range l0 HLS.out j hj
        obtain ⟨x, hxx⟩ : ∃ x, l0[j] = x := ⟨_, rfl⟩
        obtain ⟨v, hvv⟩ : ∃ v, ws[j]'(by omega) = v := ⟨_, rfl⟩
        obtain ⟨q, hq⟩ : ∃ q, mostW l0 j = q := ⟨_, rfl⟩
        rw [hxx] at hx hr hsn hmn
        rw [hvv] at hy hr2 hsn
        rw [hq] at hmn hmr HP
        have HSN := Aside0.mk hsn
        have HMN := Aside0.mk hmn
        clear hsn hmn hg hg2 hxx hvv hq
        by_cases hz : x > 0
        · have hzb : decide (0 < x) = true := decide_eq_true hz
          obtain ⟨w4, hrun, hm4, hg4⟩ := update_run (t := 64) keyedW Try.underlying64 encW_inj key_okW (HM.out.below (below_drew (Below.refl _ _)) : OwnsV encW wr.drew w3.heap.size _) (wd x v) (.int .i64 j)
          rw [enc_wd x v (by omega) (by omega) (by omega) (by omega)] at hrun
          have hc2 := blk_cell HP.out 2
          simp only [List.getElem?_toArray, List.getElem?_cons_zero, List.getElem?_cons_succ] at hc2
          have HM4 := Aside0.mk hm4
          have HP4 : Aside0 (w4.heap[gp]? = some (.cells #[.slice A1 l0.length c1, .slice (some ad2) ws.length c2, .map (some w3.heap.size), .int .i64 q] 66 (0, 0))) := ⟨(hg4.block gp (by have := blk_lt HP.out; show gp < wr.heap.size; omega) (by have := HG.out; simp; omega)).trans HP.out⟩
          have HB4 := Aside0.mk ((below_drew HB3.out).grown hg4 HB3.out.size (by intro k hk; injection hk; omega))
          clear hm4 hg4
          go_upto_region 12 with (fail)
          go_region
          have hc3 := blk_cell HP4.out 3
          simp only [List.getElem?_toArray, List.getElem?_cons_zero, List.getElem?_cons_succ] at hc3
          have hf3 := blk_frozen HP4.out 3
          clear hrun hc2 hx hy
          have hs2 := HSN.out
          have hm2 := HMN.out
          rw [if_pos hz] at hs2 hm2
          have HS2 := Aside0.mk hs2
          have HM2 := Aside0.mk hm2
          clear hs2 hm2 HSN HMN
          go_wp2
          have hg := HG.out
          refine ⟨⟨j + 1, by go_num, by omega, ⟨by rw [HS2.out]; exact HM4.out.move (Below.heap_setCell w4 _ _ _ (by show w3.heap.size ≠ gp; omega))⟩, ⟨by rw [HM2.out, show max q x = (if q < x then x else q) by split <;> omega]; exact set_tail _ _ _ _ _ _ _ _ HP4.out⟩, ⟨below_set HB4.out (by omega)⟩⟩, by simp [intOf]; omega⟩
        · obtain rfl : x = 0 := by omega
          have hs2 := HSN.out
          have hm2 := HMN.out
          rw [if_neg (by omega)] at hs2 hm2
          have HS2 := Aside0.mk hs2
          have HM2 := Aside0.mk hm2
          clear hs2 hm2 HSN HMN
          go_wp2
          go_roundw
          case rel => exact ⟨j + 1, by go_num, by omega, by rw [HS2.out]; exact HM, by rw [HM2.out]; exact HP, HB3⟩
          case measure => simp [intOf]; omega
      · have hd : decide (j < l0.length) = false := decide_eq_false hlt
        obtain rfl : j = l0.length := by omega
        go_wp2
        go_ret2
        have hg := HG.out
        exact ⟨gp, by omega, rfl, ⟨A1, c1, A2, c2, w3.heap.size, HP.out, Kd.C_below HA1.out HB3.out, Kd.C_below HA2.out HB3.out, HM.out⟩, below_step HS3.out HB3.out⟩)
end Go.Proofs.Ytlfcepdaicngjaa.Pk

/- A struct's block of the call's own, one of whose parts is a row of bytes of the call's own: what is kept, what a store and an append leave. -/
namespace Go.Proofs.Ytlfcepdaicngjaa.Hd
set_option linter.unusedVariables false
set_option linter.unusedSimpArgs false
open Go Go.RowKit Go.Proofs.YtlfcepdaicngjaaW.PrintWords Go.Proofs.YtlfcepdaicngjaaW.PrintLast Go.Proofs.YtlfcepdaicngjaaW.PrintMore

/-- Block g holds cs (type T); v, somewhere among them, is a row of the call's own. -/
structure Holds (base : Nat) (W : World) (g T : Nat) (cs : Array Value) (v : Value) (xs : List Int) : Prop where
  blk : W.heap[g]? = some (.cells cs T (0, 0))
  ge : base ≤ g
  row : Kd.R (Kd.int .u8) 5 W base (fun k => some k = v.ownBlock) v xs
section
variable {base g T : Nat} {W W1 w : World} {cs : Array Value} {v v1 v' : Value} {xs ys : List Int} {S : Nat → Prop}
theorem Holds.lt (h : Holds base W g T cs v xs) : g < W.heap.size := blk_lt h.blk
theorem Holds.own (h : Holds base W g T cs v xs) : ∀ k, v.ownBlock = some k → base ≤ k ∧ k < W.heap.size ∧ ∃ cells, W.heap[k]? = some (.cells cells 5 (0, 0)) := fun k hk => ⟨Kd.R_base h.row k hk, Kd.R_lt h.row k hk, Kd.R_typed h.row k hk⟩
theorem Holds.ne (h : Holds base W g T cs v xs) (hT : T ≠ 5) : ∀ k, v.ownBlock = some k → k ≠ g := fun k hk he => by
  obtain ⟨c, hc⟩ := (h.own k hk).2.2
  exact blk_ne hc h.blk (Ne.symm hT) he
theorem Holds.kept (h : Holds base W g T cs v xs) (hk : Kept W W1 S) (hg : ¬ S g) (hr : ∀ k, v.ownBlock = some k → ¬ S k) : Holds base W1 g T cs v xs :=
  ⟨blk_kept h.blk hk hg, h.ge, Kd.R_kept h.row hk (fun k hk => hr k hk.symm)⟩
theorem Holds.below (h : Holds base W g T cs v xs) (hb : Below W.heap.size W W1) : Holds base W1 g T cs v xs := h.kept (Kept.of_below hb (fun _ => False)) (fun h => h) (fun _ _ h => h)
theorem Holds.alloc (h : Holds base W g T cs v xs) (o : Obj) : Holds base (W.alloc o) g T cs v xs := h.below (below_alloc (Below.refl _ _) o)
theorem Holds.drewN (h : Holds base W g T cs v xs) (m : Nat) : Holds base (W.drewN m) g T cs v xs := h.below (pw_below_drewN (Below.refl _ _) m)
theorem Holds.drew (h : Holds base W g T cs v xs) : Holds base W.drew g T cs v xs := h.below (below_drew (Below.refl _ _))
/-- A store into the struct. -/
theorem Holds.set (h : Holds base W g T cs v xs) (hT : T ≠ 5) (j : Nat) (u : Value) : Holds base (W.setCell ⟨g, j, none⟩ u) g T (cs.setIfInBounds j u) v xs :=
  ⟨blk_set h.blk j u, h.ge, Kd.R_far h.row (p := ⟨g, j, none⟩) (fun k hk => h.ne hT k hk.symm) u⟩
/-- A store elsewhere. -/
theorem Holds.far (h : Holds base W g T cs v xs) {p : Addr} (hg : g ≠ p.block) (hr : ∀ k, v.ownBlock = some k → k ≠ p.block) (u : Value) : Holds base (W.setCell p u) g T cs v xs :=
  ⟨blk_far h.blk hg u, h.ge, Kd.R_far h.row (p := p) (fun k hk => hr k hk.symm) u⟩
/-- A store into the row. -/
theorem Holds.put {b cap : Nat} (h : Holds base W g T cs (.slice (some ⟨b, 0, none⟩) xs.length cap) xs) (hT : T ≠ 5) (i : Nat) (x : Int) :
    Holds base (W.setCell ⟨b, i, none⟩ (.int .u8 x)) g T cs (.slice (some ⟨b, 0, none⟩) xs.length cap) (xs.set i x) := by
  have h1 := (Kd.R_put h.row (i : Int) x).1
  simp only [Int.toNat_natCast] at h1
  exact ⟨blk_far h.blk (p := ⟨b, i, none⟩) (fun e => h.ne hT b rfl e.symm) _, h.ge, h1⟩
/-- A new row put in the struct's place j. -/
theorem Holds.turn (h : Holds base W g T cs v xs) (j : Nat) (hr : Kd.R (Kd.int .u8) 5 W base (fun k => some k = v1.ownBlock) v1 ys) (hT : T ≠ 5) : Holds base (W.setCell ⟨g, j, none⟩ v1) g T (cs.setIfInBounds j v1) v1 ys := by
  have h' : Holds base W g T cs v1 ys := ⟨h.blk, h.ge, hr⟩
  exact h'.set hT j v1
end
/-- What a method of the struct at g, whose row was v and is v', keeps. -/
structure Wrote (W W' : World) (g : Nat) (v v' : Value) : Prop where
  same : Below 0 W W'
  kept : Kept W W' (fun k => k = g ∨ some k = v.ownBlock)
  row : v'.ownBlock = v.ownBlock ∨ ∃ b, v'.ownBlock = some b ∧ W.heap.size ≤ b
section
variable {B g g2 T T2 base base2 : Nat} {w W W1 W2 : World} {v v1 v2 u : Value} {cs : Array Value} {xs ys : List Int}
theorem Wrote.refl (W : World) (g : Nat) (v : Value) : Wrote W W g v v := ⟨Below.refl _ _, Kept.refl _ _, .inl rfl⟩
theorem Wrote.trans (h : Wrote W W1 g v v1) (k : Wrote W1 W2 g v1 v2) : Wrote W W2 g v v2 := by
  refine ⟨h.same.trans k.same, h.kept.then_ k.kept (fun q hq => ?_), ?_⟩
  · rcases hq with rfl | hq
    · exact .inl (.inl rfl)
    · rcases h.row with h1 | ⟨b, h1, h2⟩
      · exact .inl (.inr (by rw [hq, h1]))
      · rw [h1] at hq; injection hq with hq; exact .inr (by omega)
  · rcases k.row with k1 | ⟨b, k1, k2⟩
    · rw [k1]; exact h.row
    · exact .inr ⟨b, k1, Nat.le_trans h.kept.1 k2⟩
theorem Wrote.drewN (h : Wrote W W1 g v v1) (m : Nat) : Wrote W (W1.drewN m) g v v1 := ⟨pw_below_drewN h.same m, h.kept.drewN m, h.row⟩
theorem Wrote.drew (h : Wrote W W1 g v v1) : Wrote W W1.drew g v v1 := ⟨below_drew h.same, h.kept.drew, h.row⟩
theorem Wrote.quiet (h : Wrote W W1 g v v1) (hb : Below W1.heap.size W1 W2) : Wrote W W2 g v v1 := ⟨h.same.trans (hb.mono (Nat.zero_le _)), h.kept.below hb, h.row⟩
theorem Wrote.alloc (h : Wrote W W1 g v v1) (o : Obj) : Wrote W (W1.alloc o) g v v1 := h.quiet (below_alloc (Below.refl _ _) o)
theorem same_set (h : Below 0 W W1) (p : Addr) (x : Value) : Below 0 W (W1.setCell p x) := ⟨h.os, h.tape, h.output, by simpa [World.setCell] using h.size, fun k hk => absurd hk (Nat.not_lt_zero _)⟩
theorem Wrote.set (h : Wrote W W1 g v v1) (j : Nat) (x : Value) : Wrote W (W1.setCell ⟨g, j, none⟩ x) g v v1 :=
  ⟨same_set h.same _ _, h.kept.setCell (.inl (.inl rfl)) x, h.row⟩
theorem Wrote.put {b : Nat} (h : Wrote W W1 g v v1) (hb : v1.ownBlock = some b) (j : Nat) (x : Value) : Wrote W (W1.setCell ⟨b, j, none⟩ x) g v v1 := by
  refine ⟨same_set h.same _ _, h.kept.setCell ?_ x, h.row⟩
  rcases h.row with h1 | ⟨c, h1, h2⟩
  · exact .inl (.inr (by rw [← hb, h1]))
  · rw [hb] at h1; injection h1 with h1; exact .inr (by rw [h1]; exact h2)
/-- An append to the row: the row is another. -/
theorem Wrote.grow (h : Wrote W W1 g v v1) (hg : W1.grownBy W2 v1.ownBlock) (hr : v2.ownBlock = v1.ownBlock ∨ ∃ b, v2.ownBlock = some b ∧ W1.heap.size ≤ b) : Wrote W W2 g v v2 :=
  h.trans ⟨⟨hg.os, hg.tape, hg.output, hg.size, fun k hk => absurd hk (Nat.not_lt_zero _)⟩, Kept.of_grown hg (Kept.refl _ _) (fun k hk => .inl (.inr hk.symm)), hr⟩
/-- All below both blocks is as it was. -/
theorem Wrote.below (h : Wrote W W1 g v v1) (hb : Below B w W) (hB : B ≤ W.heap.size) (hg : B ≤ g) (hv : ∀ k, v.ownBlock = some k → B ≤ k) : Below B w W1 := by
  refine hb.trans ⟨h.same.os, h.same.tape, h.same.output, h.same.size, fun k hk => h.kept.2 k (Nat.lt_of_lt_of_le hk hB) (fun hs => ?_)⟩
  rcases hs with rfl | hs
  · omega
  · have := hv k hs.symm; omega
theorem Wrote.below' (h : Wrote W W1 g v v1) (hI : Holds base W g T cs v xs) (hb : Below base w W) : Below base w W1 :=
  h.below hb (Nat.le_of_lt (Nat.lt_of_le_of_lt hI.ge hI.lt)) hI.ge (fun k hk => (hI.own k hk).1)
/-- Another struct with a row of its own stays as it was. -/
theorem Holds.stay (h2 : Holds base2 W g2 T2 cs u ys) (h : Wrote W W1 g v v1) (hg : g2 ≠ g) (hgv : ∀ k, v.ownBlock = some k → g2 ≠ k) (hug : ∀ k, u.ownBlock = some k → k ≠ g) (huv : ∀ k, u.ownBlock = some k → v.ownBlock ≠ some k) : Holds base2 W1 g2 T2 cs u ys :=
  h2.kept h.kept (fun hs => hs.elim hg (fun hs => hgv _ hs.symm rfl)) (fun k hk hs => hs.elim (hug k hk) (fun hs => huv k hk hs.symm))
theorem apart_step (h : Wrote W W1 g v v1) (hlt : ∀ k, u.ownBlock = some k → k < W.heap.size) (huv : ∀ k, u.ownBlock = some k → v.ownBlock ≠ some k) : ∀ k, u.ownBlock = some k → v1.ownBlock ≠ some k := by
  intro k hk
  rcases h.row with h1 | ⟨b, h1, h2⟩
  · rw [h1]; exact huv k hk
  · rw [h1]; intro e; injection e with e; have := hlt k hk; omega
end
end Go.Proofs.Ytlfcepdaicngjaa.Hd

/- Lengths of words: how far they fill, the first word of each length, the words; no word begins another one. Plain Lean, no program. -/
namespace Go.Proofs.Ytlfcepdaicngjaa.Pk
set_option linter.unusedVariables false
set_option linter.unusedSimpArgs false
/-- What a length fills of 2^15. -/
def unit (x : Nat) : Nat := if x = 0 then 0 else 2 ^ (15 - x)
def fillN (l : List Nat) : Nat := (l.map unit).sum
/-- How many have a length (none of 0). -/
def cn (l : List Nat) (n : Nat) : Nat := if n = 0 then 0 else l.count n
def firstN (l : List Nat) : Nat → Nat
  | 0 => 0
  | n + 1 => 2 * (firstN l n + cn l n)
/-- What lengths up to m fill. -/
def upTo (l : List Nat) : Nat → Nat
  | 0 => 0
  | m + 1 => upTo l m + cn l (m + 1) * 2 ^ (15 - (m + 1))
theorem upTo_cons (x : Nat) (l : List Nat) : ∀ m, upTo (x :: l) m = upTo l m + (if 0 < x ∧ x ≤ m then 2 ^ (15 - x) else 0)
  | 0 => by simp [upTo]; omega
  | m + 1 => by
    rw [upTo, upTo, upTo_cons x l m]
    have hc : cn (x :: l) (m + 1) = cn l (m + 1) + (if x = m + 1 then 1 else 0) := by
      unfold cn
      rw [if_neg (by omega), if_neg (by omega), List.count_cons]
      by_cases h : x = m + 1
      · simp [h]
      · simp [h]
    rw [hc]
    by_cases h : x = m + 1
    · subst h
      rw [if_neg (by omega), if_pos rfl, if_pos (by omega), Nat.add_mul, Nat.one_mul]; omega
    · rw [if_neg h, Nat.add_zero]
      by_cases h2 : 0 < x ∧ x ≤ m
      · rw [if_pos h2, if_pos (by omega)]; omega
      · rw [if_neg h2, if_neg (by omega)]; rfl
theorem upTo_le (m : Nat) : ∀ (l : List Nat), upTo l m ≤ fillN l
  | [] => by
    have : ∀ m, upTo [] m = 0 := by intro m; induction m with | zero => rfl | succ m ih => simp [upTo, ih, cn]
    rw [this]; exact Nat.zero_le _
  | x :: l => by
    have ih := upTo_le m l
    rw [upTo_cons]
    unfold fillN at ih ⊢
    rw [List.map_cons, List.sum_cons]
    unfold unit at ih ⊢
    by_cases h : 0 < x ∧ x ≤ m
    · rw [if_pos h, if_neg (by omega)]; omega
    · rw [if_neg h]; omega
theorem first_upTo (l : List Nat) : ∀ m, m ≤ 14 → firstN l (m + 1) * 2 ^ (14 - m) = upTo l m
  | 0, _ => by simp [firstN, upTo, cn]
  | m + 1, h => by
    have ih := first_upTo l m (by omega)
    rw [firstN, upTo, ← ih, Nat.mul_comm 2, Nat.mul_assoc, show 2 * 2 ^ (14 - (m + 1)) = 2 ^ (14 - m) by rw [show 14 - m = 14 - (m + 1) + 1 by omega, Nat.pow_succ, Nat.mul_comm], Nat.add_mul, show 15 - (m + 1) = 14 - m by omega]
/-- The words of each length fit. -/
theorem first_fit (l : List Nat) (hf : fillN l ≤ 32768) (m : Nat) (hm : m ≤ 15) : firstN l m + cn l m ≤ 2 ^ m := by
  cases m with
  | zero => simp [firstN, cn]
  | succ m =>
    have h1 := first_upTo l m (by omega)
    have h2 := upTo_le (m + 1) l
    rw [upTo, show 15 - (m + 1) = 14 - m by omega] at h2
    rw [← h1, ← Nat.add_mul] at h2
    have h3 : 2 ^ (m + 1) * 2 ^ (14 - m) = 32768 := by rw [← Nat.pow_add, show m + 1 + (14 - m) = 15 by omega]
    have h4 : (firstN l (m + 1) + cn l (m + 1)) * 2 ^ (14 - m) ≤ 2 ^ (m + 1) * 2 ^ (14 - m) := by omega
    exact Nat.le_of_mul_le_mul_right h4 (Nat.pow_pos (by omega))
theorem first_step (l : List Nat) (m n : Nat) (h : m ≤ n) : firstN l m * 2 ^ (n - m) ≤ firstN l n := by
  induction n with
  | zero => obtain rfl : m = 0 := by omega
            simp
  | succ n ih =>
    by_cases he : m = n + 1
    · subst he; simp
    · have := ih (by omega)
      rw [show n + 1 - m = n - m + 1 by omega, Nat.pow_succ, ← Nat.mul_assoc, firstN]
      omega
theorem first_over (l : List Nat) (m n : Nat) (h : m < n) : (firstN l m + cn l m) * 2 ^ (n - m) ≤ firstN l n := by
  have := first_step l (m + 1) n (by omega)
  rw [firstN] at this
  rw [show n - m = n - (m + 1) + 1 by omega, Nat.pow_succ, Nat.mul_comm (2 ^ _) 2, ← Nat.mul_assoc, Nat.mul_comm _ 2]
  exact this
/-- The word of a place (of a length that isn't 0). -/
def wordN (l : List Nat) (i : Nat) : Nat := firstN l (l.getD i 0) + (l.take i).count (l.getD i 0)
theorem count_take_lt (l : List Nat) (i : Nat) (hi : i < l.length) : (l.take i).count l[i] < l.count l[i] := by
  have h : l.count l[i] = (l.take i).count l[i] + (l.drop i).count l[i] := by rw [← List.count_append, List.take_append_drop]
  rw [h, List.drop_eq_getElem_cons hi, List.count_cons_self]
  omega
theorem word_lt (l : List Nat) (i : Nat) (hi : i < l.length) (hp : 0 < l[i]) : firstN l l[i] ≤ wordN l i ∧ wordN l i < firstN l l[i] + cn l l[i] := by
  have hg : l.getD i 0 = l[i] := by rw [List.getD_eq_getElem?_getD, List.getElem?_eq_getElem hi]; rfl
  have := count_take_lt l i hi
  unfold wordN cn
  rw [hg, if_neg (by omega)]
  omega
theorem word_fit (l : List Nat) (hf : fillN l ≤ 32768) (i : Nat) (hi : i < l.length) (hp : 0 < l[i]) (h15 : l[i] ≤ 15) : wordN l i < 2 ^ l[i] := by
  have h1 := (word_lt l i hi hp).2
  have h2 := first_fit l hf l[i] h15
  omega
/-- Two places with words of one length have words of their own. -/
theorem word_inj (l : List Nat) (i j : Nat) (hi : i < l.length) (hj : j < l.length) (he : l[i] = l[j]) (hw : wordN l i = wordN l j) : i = j := by
  have gi : l.getD i 0 = l[i] := by rw [List.getD_eq_getElem?_getD, List.getElem?_eq_getElem hi]; rfl
  have gj : l.getD j 0 = l[j] := by rw [List.getD_eq_getElem?_getD, List.getElem?_eq_getElem hj]; rfl
  have hmono : ∀ a b, (hab : a < b) → (hb : b ≤ l.length) → (l.take a).count (l[a]'(by omega)) < (l.take b).count (l[a]'(by omega)) := by
    intro a b hab hb
    have h1 : (l.take b).take a = l.take a := by rw [List.take_take, Nat.min_eq_left (by omega)]
    have h2 := count_take_lt (l.take b) a (by rw [List.length_take]; omega)
    rw [h1, List.getElem_take] at h2
    exact h2
  unfold wordN at hw
  rw [gi, gj, he] at hw
  have hw' : (l.take i).count l[j] = (l.take j).count l[j] := by omega
  rcases Nat.lt_trichotomy i j with h | h | h
  · have := hmono i j h (by omega); rw [he] at this; omega
  · exact h
  · have := hmono j i h (by omega); omega
/-- No word begins another one. -/
theorem word_prefix (l : List Nat) (hf : fillN l ≤ 32768) (i j : Nat) (hi : i < l.length) (hj : j < l.length) (hp : 0 < l[i]) (hlt : l[i] < l[j]) (h15 : l[j] ≤ 15) : wordN l j / 2 ^ (l[j] - l[i]) ≠ wordN l i := by
  intro h
  have h1 := (word_lt l i hi hp).2
  have h2 := (word_lt l j hj (by omega)).1
  have h3 := first_over l l[i] l[j] hlt
  have h4 : (firstN l l[i] + cn l l[i]) * 2 ^ (l[j] - l[i]) ≤ wordN l j := by omega
  have h5 := (Nat.le_div_iff_mul_le (Nat.pow_pos (by omega : 0 < 2))).2 h4
  omega
end Go.Proofs.Ytlfcepdaicngjaa.Pk

/- Plain: lengths that Fill takes. -/
namespace Go.Proofs.Ytlfcepdaicngjaa.Pk
set_option linter.unusedVariables false
set_option linter.unusedSimpArgs false
open Go Go.RowKit Go.Proofs.Ytlfcepdaicngjaa.P Go.Proofs.YtlfcepdaicngjaaW.PrintWords Go.Proofs.YtlfcepdaicngjaaW.PrintLast Go.Proofs.YtlfcepdaicngjaaW.PrintMore
/-- Where the loop answers OK, no length that it saw is above 15. -/
theorem fill_le (l0 : List Int) (n : Int) (hl : l0.length ≤ 4096) : ∀ (k : Nat) (acc i : Int), 0 ≤ i → prefix_Fill.l0 k acc l0 (l0.length : Int) i = some (n, 0) → ∀ j : Int, i ≤ j → j < l0.length → rd l0 j ≤ 15
  | 0, acc, i, _, h, _, _, _ => by simp [prefix_Fill.l0] at h
  | k + 1, acc, i, h0, h, j, hj, hj2 => by
    have hw : wrap64 (i + 1) = i + 1 := by unfold wrap64; omega
    rw [prefix_Fill.l0, if_pos (by omega), if_pos h0, if_pos (by omega), hw] at h
    by_cases h15 : rd l0 i > 15
    · rw [if_pos h15] at h; simp at h
    · rw [if_neg h15] at h
      by_cases he : j = i
      · subst he; omega
      · split at h
        · split at h
          · exact fill_le l0 n hl k _ _ (by omega) h j (by omega) hj2
          · simp at h
        · exact fill_le l0 n hl k _ _ (by omega) h j (by omega) hj2
theorem fill_okW (l0 : List Int) (n : Int) (hu : ∀ x ∈ l0, 0 ≤ x) (h : prefix_Fill.f 5000 l0 = some (n, 0)) : okW l0 = true := by
  unfold prefix_Fill.f at h
  split at h
  · simp at h
  · rename_i hl
    have hl2 : l0.length ≤ 4096 := by omega
    have key := fill_le l0 n hl2 5000 0 0 (by omega) h
    simp only [okW, Bool.and_eq_true, decide_eq_true_eq, List.all_eq_true]
    refine ⟨hl2, fun x hx => ⟨hu x hx, ?_⟩⟩
    obtain ⟨i, hi, rfl⟩ := List.mem_iff_getElem.1 hx
    have := key (i : Int) (by omega) (by omega)
    unfold rd at this
    rwa [Int.toNat_natCast, List.getD_eq_getElem?_getD, List.getElem?_eq_getElem hi, Option.getD_some] at this
/-- What a number of 32 bits may be. -/
def B32 (l : List Int) : Prop := ∀ v ∈ l, 0 ≤ v ∧ v < 4294967296
theorem B32.set {l : List Int} (h : B32 l) (i : Nat) (v : Int) (hv : 0 ≤ v ∧ v < 4294967296) : B32 (l.set i v) := fun x hx => by
  rcases List.mem_or_eq_of_mem_set hx with hx | rfl
  · exact h x hx
  · exact hv
theorem B32.getD {l : List Int} (h : B32 l) (i : Nat) : 0 ≤ l.getD i 0 ∧ l.getD i 0 < 4294967296 := by
  rw [List.getD_eq_getElem?_getD]
  by_cases hi : i < l.length
  · rw [List.getElem?_eq_getElem hi]; exact h _ (List.getElem_mem hi)
  · rw [List.getElem?_eq_none (by omega)]; simp
theorem zeros_B32 : B32 zeros17 := fun v hv => by
  have := List.eq_of_mem_replicate hv
  omega
theorem nextW_B32 (c : List Int) : ∀ m, B32 (nextW c m)
  | 0 => zeros_B32
  | m + 1 => by rw [nextW]; exact (nextW_B32 c m).set _ _ (by omega)
theorem foldW_B32 (l : List Int) : ∀ p : List Int × List Int, B32 p.1 → B32 p.2 → B32 (l.foldl stepW p).2 := by
  induction l with
  | nil => intro p _ h; exact h
  | cons x l ih =>
    intro p h1 h2
    rw [List.foldl_cons]
    unfold stepW
    split
    · refine ih _ (h1.set _ _ (by omega)) ?_
      intro v hv
      rcases List.mem_append.1 hv with hv | hv
      · exact h2 v hv
      · rw [List.mem_singleton.1 hv]; exact h1.getD _
    · refine ih _ h1 ?_
      intro v hv
      rcases List.mem_append.1 hv with hv | hv
      · exact h2 v hv
      · rw [List.mem_singleton.1 hv]; omega
/-- The words have 32 bits, and there are as many as lengths. -/
theorem wordsW_B32 (l : List Int) : B32 (wordsW l).2 := foldW_B32 l _ (nextW_B32 _ _) (fun v hv => by simp at hv)
theorem wordsW_length (l : List Int) : (wordsW l).2.length = l.length := by
  have := (foldW_len l (nextW ((cntW l).set 0 0) 15, [])).2
  simpa [wordsW] using this
theorem fill_some (l0 : List Int) (hl : l0.length ≤ 4096) (hu : ∀ x ∈ l0, 0 ≤ x) : ∀ (k : Nat) (acc : Int) (i : Nat), i ≤ l0.length → l0.length - i < k → ∃ r, prefix_Fill.l0 k acc l0 (l0.length : Int) (i : Int) = some r
  | 0, acc, i, _, h => absurd h (Nat.not_lt_zero _)
  | k + 1, acc, i, h0, h => by
    by_cases hi : i < l0.length
    · have hw : wrap64 ((i : Int) + 1) = ((i + 1 : Nat) : Int) := by unfold wrap64; omega
      have hr : 0 ≤ rd l0 (i : Int) := by
        unfold rd
        rw [Int.toNat_natCast, List.getD_eq_getElem?_getD, List.getElem?_eq_getElem hi, Option.getD_some]
        exact hu _ (List.getElem_mem hi)
      rw [prefix_Fill.l0, if_pos (by omega), if_pos (by omega), if_pos (by omega), hw]
      split
      · exact ⟨_, rfl⟩
      · split
        · (try rw [if_pos hr]); exact fill_some l0 hl hu k _ (i + 1) (by omega) (by omega)
        · exact fill_some l0 hl hu k _ (i + 1) (by omega) (by omega)
    · rw [prefix_Fill.l0, if_neg (by omega)]; exact ⟨_, rfl⟩
theorem fill_total (l0 : List Int) (hu : ∀ x ∈ l0, 0 ≤ x) : ∃ n e, prefix_Fill.f 5000 l0 = some (n, e) := by
  unfold prefix_Fill.f
  split
  · exact ⟨_, _, rfl⟩
  · rename_i hl
    obtain ⟨⟨n, e⟩, h⟩ := fill_some l0 (by omega) hu 5000 0 0 (by omega) (by omega)
    exact ⟨n, e, h⟩
/-- Words answers at any lengths. -/
theorem words_total (l0 : List Int) (hu : ∀ x ∈ l0, 0 ≤ x) : ∃ n e, prefix_Fill.f 5000 l0 = some (n, e) ∧ prefix_Words.f l0 = some (if e = 0 then (if n > 32768 then ([], 10) else ((wordsW l0).2, 0)) else ([], e)) := by
  obtain ⟨n, e, h⟩ := fill_total l0 hu
  refine ⟨n, e, h, ?_⟩
  unfold prefix_Words.f
  rw [h]
  by_cases he : e = 0
  · subst he
    have hok := fill_okW l0 n hu h
    by_cases hn : n > 32768
    · simp [hn]
    · simp [hn, hok]
  · simp [he]
theorem few_some (l0 : List Int) (hl : l0.length ≤ 4096) : ∀ (k : Nat) (acc : Int) (i : Nat), i ≤ l0.length → l0.length - i < k → ∃ r, prefix_few.l0 k acc l0 (l0.length : Int) (i : Int) = some r
  | 0, acc, i, _, h => absurd h (Nat.not_lt_zero _)
  | k + 1, acc, i, h0, h => by
    by_cases hi : i < l0.length
    · have hw : wrap64 ((i : Int) + 1) = ((i + 1 : Nat) : Int) := by unfold wrap64; omega
      rw [prefix_few.l0, if_pos (by omega), if_pos (by omega), if_pos (by omega), hw]
      split
      · exact ⟨_, rfl⟩
      · exact few_some l0 hl k _ (i + 1) (by omega) (by omega)
    · rw [prefix_few.l0, if_neg (by omega)]; exact ⟨_, rfl⟩
theorem few_total (l0 : List Int) (hl : l0.length ≤ 4096) : ∃ b, prefix_few.f 5000 l0 = some b := few_some l0 hl 5000 0 0 (by omega) (by omega)
end Go.Proofs.Ytlfcepdaicngjaa.Pk

/- Plain: the words that prefix.Words makes are Kraft's words. -/
namespace Go.Proofs.Ytlfcepdaicngjaa.Pk
set_option linter.unusedVariables false
set_option linter.unusedSimpArgs false
open Go Go.RowKit Go.Proofs.Ytlfcepdaicngjaa.P Go.Proofs.YtlfcepdaicngjaaW.PrintWords Go.Proofs.YtlfcepdaicngjaaW.PrintLast Go.Proofs.YtlfcepdaicngjaaW.PrintMore
/-- Lengths as natural numbers. -/
def nat (l : List Int) : List Nat := l.map Int.toNat
theorem nat_len (l : List Int) : (nat l).length = l.length := by simp [nat]
theorem nat_get (l : List Int) (i : Nat) (h : i < l.length) : (nat l)[i]'(by rw [nat_len]; exact h) = l[i].toNat := by simp [nat]
theorem nat_getD (l : List Int) (i : Nat) : (nat l).getD i 0 = (l.getD i 0).toNat := by
  rw [List.getD_eq_getElem?_getD, List.getD_eq_getElem?_getD, nat, List.getElem?_map]
  cases l[i]? <;> rfl
theorem getD_set (l : List Int) (i n : Nat) (v : Int) : (l.set i v).getD n 0 = if n = i ∧ i < l.length then v else l.getD n 0 := by
  rw [List.getD_eq_getElem?_getD, List.getD_eq_getElem?_getD, List.getElem?_set]
  by_cases h : i = n
  · subst h
    by_cases h2 : i < l.length
    · simp [h2]
    · simp [h2]
  · rw [if_neg h, if_neg (by omega)]
theorem cnt_gen : ∀ (l xs : List Int), xs.length = 17 → (∀ x ∈ l, 0 ≤ x ∧ x ≤ 15) → (∀ n, 0 ≤ xs.getD n 0 ∧ xs.getD n 0 + l.length < 4294967296) → ∀ n,
    (l.foldl (fun xs x => xs.set x.toNat ((xs.getD x.toNat 0 + 1) % 4294967296)) xs).getD n 0 = xs.getD n 0 + ((nat l).count n : Nat)
  | [], xs, _, _, _, n => by simp [nat]
  | x :: l, xs, h17, hx, hb, n => by
    have hx0 := hx x (by simp)
    have hbx := hb x.toNat
    simp only [List.length_cons] at hbx hb
    have hm : (xs.getD x.toNat 0 + 1) % 4294967296 = xs.getD x.toNat 0 + 1 := by omega
    rw [List.foldl_cons, hm, cnt_gen l _ (by rw [List.length_set]; exact h17) (fun y hy => hx y (by simp [hy])) ?_ n]
    · rw [getD_set]
      have hc : (nat (x :: l)).count n = (nat l).count n + if x.toNat = n then 1 else 0 := by
        simp only [nat, List.map_cons, List.count_cons, beq_iff_eq]
      rw [hc]
      by_cases h : n = x.toNat
      · subst h; rw [if_pos ⟨rfl, by omega⟩, if_pos rfl]; omega
      · rw [if_neg (fun q => h q.1), if_neg (fun q => h q.symm)]; omega
    · intro m
      have := hb m
      rw [getD_set]
      split
      · omega
      · omega
theorem zeros_get (n : Nat) : zeros17.getD n 0 = 0 := by
  rw [List.getD_eq_getElem?_getD]
  cases h : zeros17[n]? with
  | none => rfl
  | some v => exact List.eq_of_mem_replicate (List.mem_of_getElem? h)
theorem cnt_get (l : List Int) (hl : l.length ≤ 4096) (hx : ∀ x ∈ l, 0 ≤ x ∧ x ≤ 15) (n : Nat) : (cntW l).getD n 0 = ((nat l).count n : Nat) := by
  have := cnt_gen l zeros17 rfl hx (fun n => by rw [zeros_get]; omega) n
  rw [zeros_get, Int.zero_add] at this
  exact this
theorem next_get (L : List Nat) (hf : fillN L ≤ 32768) (c : List Int) (hc : ∀ n, 1 ≤ n → n ≤ 15 → c.getD n 0 = ((L.count n : Nat) : Int)) : ∀ m, m ≤ 15 → ∀ k, k ≤ m + 1 → (nextW c m).getD k 0 = ((firstN L k : Nat) : Int)
  | 0, _, k, hk => by
    rw [nextW, zeros_get]
    rcases (by omega : k = 0 ∨ k = 1) with rfl | rfl <;> simp [firstN, cn]
  | m + 1, hm, k, hk => by
    have ih := next_get L hf c hc m (by omega)
    rw [nextW, getD_set]
    by_cases h : k = m + 2
    · rw [if_pos ⟨h, by rw [nextW_len]; omega⟩, ih (m + 1) (by omega), hc (m + 1) (by omega) (by omega)]
      have h1 := first_fit L hf (m + 1) (by omega)
      have h2 : (2 : Nat) ^ (m + 1) ≤ 2 ^ 15 := Nat.pow_le_pow_right (by omega) (by omega)
      subst h
      have e : firstN L (m + 2) = 2 * (firstN L (m + 1) + cn L (m + 1)) := rfl
      have ec : cn L (m + 1) = L.count (m + 1) := by unfold cn; rw [if_neg (by omega)]
      rw [ec] at h1 e
      rw [e]
      omega
    · rw [if_neg (fun q => h q.1)]
      exact ih k (by omega)
theorem step_get (l : List Int) (hl : l.length ≤ 4096) (hx : ∀ x ∈ l, 0 ≤ x ∧ x ≤ 15) (hf : fillN (nat l) ≤ 32768) (c : List Int) (hc : ∀ n, 1 ≤ n → n ≤ 15 → c.getD n 0 = (((nat l).count n : Nat) : Int)) : ∀ i, i ≤ l.length →
    (∀ n, 1 ≤ n → n ≤ 15 → ((l.take i).foldl stepW (nextW c 15, [])).1.getD n 0 = ((firstN (nat l) n + ((nat l).take i).count n : Nat) : Int)) ∧
    (∀ j, j < i → ((l.take i).foldl stepW (nextW c 15, [])).2.getD j 0 = if 0 < l.getD j 0 then ((wordN (nat l) j : Nat) : Int) else 0)
  | 0, _ => by
    refine ⟨fun n h1 h2 => ?_, fun j hj => absurd hj (Nat.not_lt_zero _)⟩
    have := next_get (nat l) hf c hc 15 (by omega) n (by omega)
    simpa using this
  | i + 1, hi => by
    obtain ⟨ih1, ih2⟩ := step_get l hl hx hf c hc i (by omega)
    have hil : i < l.length := by omega
    have hfl := foldW_len (l.take i) (nextW c 15, [])
    have hl1 := hfl.1.trans (nextW_len c 15)
    have hl2 : ((l.take i).foldl stepW (nextW c 15, [])).2.length = i := by rw [hfl.2, List.length_take]; simp; omega
    have hxi := hx _ (List.getElem_mem hil)
    have hg : l.getD i 0 = l[i] := by rw [List.getD_eq_getElem?_getD, List.getElem?_eq_getElem hil]; rfl
    have ht : (nat l).take (i + 1) = (nat l).take i ++ [l[i].toNat] := by rw [List.take_succ_eq_append_getElem (by rw [nat_len]; exact hil), nat_get l i hil]
    rw [List.take_succ_eq_append_getElem hil, wordsW_snoc]
    have hwn : wordN (nat l) i = firstN (nat l) l[i].toNat + ((nat l).take i).count l[i].toNat := by
      unfold wordN
      rw [nat_getD, hg]
    obtain ⟨p, hp⟩ : ∃ p, (l.take i).foldl stepW (nextW c 15, []) = p := ⟨_, rfl⟩
    rw [hp] at ih1 ih2 hl1 hl2 ⊢
    have hap : ∀ v : Int, ∀ j, j < i + 1 → (p.2 ++ [v]).getD j 0 = if j = i then v else p.2.getD j 0 := by
      intro v j hj
      rw [List.getD_eq_getElem?_getD, List.getD_eq_getElem?_getD]
      by_cases h : j = i
      · rw [List.getElem?_append_right (by omega), hl2, h]; simp
      · rw [List.getElem?_append_left (by omega), if_neg h]
    unfold stepW
    by_cases hz : l[i] > 0
    · rw [if_pos hz]
      have h1 := first_fit (nat l) hf l[i].toNat (by omega)
      have h2 : (2 : Nat) ^ l[i].toNat ≤ 2 ^ 15 := Nat.pow_le_pow_right (by omega) (by omega)
      have h3 := ih1 l[i].toNat (by omega) (by omega)
      have h4 : ((nat l).take i).count l[i].toNat ≤ 4096 := by
        have := List.count_le_length (a := l[i].toNat) (l := (nat l).take i)
        rw [List.length_take] at this
        omega
      refine ⟨fun n q1 q2 => ?_, fun j hj => ?_⟩
      · dsimp only
        rw [getD_set, ht, List.count_append, h3]
        by_cases h : n = l[i].toNat
        · rw [if_pos ⟨h, by omega⟩, ← h, List.count_singleton, if_pos (by simp)]
          have ec : cn (nat l) n = (nat l).count n := by unfold cn; rw [if_neg (by omega)]
          rw [← h, ec] at h1
          rw [← h] at h2 h4
          omega
        · rw [if_neg (fun q => h q.1), ih1 n q1 q2, List.count_singleton, if_neg (by simp; omega)]
          rfl
      · dsimp only
        rw [hap _ j hj]
        by_cases h : j = i
        · rw [if_pos h, h, hg, if_pos hz, h3, hwn]
        · rw [if_neg h]; exact ih2 j (by omega)
    · rw [if_neg hz]
      refine ⟨fun n q1 q2 => ?_, fun j hj => ?_⟩
      · dsimp only
        rw [ht, List.count_append, ih1 n q1 q2, List.count_singleton, if_neg (by simp; omega)]
        rfl
      · dsimp only
        rw [hap _ j hj]
        by_cases h : j = i
        · rw [if_pos h, h, hg, if_neg hz]
        · rw [if_neg h]; exact ih2 j (by omega)
/-- The words of lengths are Kraft's. -/
theorem words_get (l : List Int) (hok : okW l = true) (hf : fillN (nat l) ≤ 32768) (i : Nat) (hi : i < l.length) : (wordsW l).2.getD i 0 = if 0 < l.getD i 0 then ((wordN (nat l) i : Nat) : Int) else 0 := by
  obtain ⟨hl, hx⟩ : l.length ≤ 4096 ∧ ∀ x ∈ l, 0 ≤ x ∧ x ≤ 15 := by simpa [okW] using hok
  have := (step_get l hl hx hf ((cntW l).set 0 0) (fun n h1 h2 => by rw [getD_set, if_neg (fun q => by omega), cnt_get l hl hx n]) l.length (Nat.le_refl _)).2 i hi
  rw [List.take_length] at this
  exact this
end Go.Proofs.Ytlfcepdaicngjaa.Pk

/- Plain: what a code's look-up tells; a whole code: any 15 bits begin with a word. -/
namespace Go.Proofs.Ytlfcepdaicngjaa.Pk
set_option linter.unusedVariables false
set_option linter.unusedSimpArgs false
open Go Go.RowKit Go.Proofs.Ytlfcepdaicngjaa.P Go.Proofs.Ytlfcepdaicngjaa.MapV Go.Proofs.YtlfcepdaicngjaaW.PrintWords Go.Proofs.YtlfcepdaicngjaaW.PrintLast Go.Proofs.YtlfcepdaicngjaaW.PrintMore
/-- Bits in the other order. -/
def rvs (v : Nat) : Nat → Nat
  | 0 => 0
  | i + 1 => 2 * rvs v i + v / 2 ^ i % 2
theorem rvs_lt (v : Nat) : ∀ i, rvs v i < 2 ^ i
  | 0 => by simp [rvs]
  | i + 1 => by have := rvs_lt v i; rw [rvs, Nat.pow_succ]; omega
theorem rvs_pre (v : Nat) : ∀ l d, rvs v (l + d) / 2 ^ d = rvs v l
  | l, 0 => by simp
  | l, d + 1 => by
    rw [← Nat.add_assoc, rvs, Nat.pow_succ, Nat.mul_comm (2 ^ d) 2, ← Nat.div_div_eq_div_mul, show (2 * rvs v (l + d) + v / 2 ^ (l + d) % 2) / 2 = rvs v (l + d) by omega, rvs_pre v l d]
theorem fill_val (l0 : List Int) (n : Int) (hl : l0.length ≤ 4096) (hx : ∀ x ∈ l0, 0 ≤ x ∧ x ≤ 15) : ∀ (k : Nat) (acc : Int) (i : Nat), i ≤ l0.length → 0 ≤ acc → acc ≤ 32768 * i → prefix_Fill.l0 k acc l0 (l0.length : Int) (i : Int) = some (n, 0) → n = acc + (fillN ((nat l0).drop i) : Nat)
  | 0, acc, i, _, _, _, h => by simp [prefix_Fill.l0] at h
  | k + 1, acc, i, h0, ha, hb, h => by
    by_cases hi : i < l0.length
    · have hw : wrap64 ((i : Int) + 1) = ((i + 1 : Nat) : Int) := by unfold wrap64; omega
      have hr : rd l0 (i : Int) = l0[i] := by
        unfold rd
        rw [Int.toNat_natCast, List.getD_eq_getElem?_getD, List.getElem?_eq_getElem hi, Option.getD_some]
      have hxi := hx _ (List.getElem_mem hi)
      have hd : (nat l0).drop i = l0[i].toNat :: (nat l0).drop (i + 1) := by rw [List.drop_eq_getElem_cons (by rw [nat_len]; exact hi), nat_get l0 i hi]
      have hf : fillN ((nat l0).drop i) = unit l0[i].toNat + fillN ((nat l0).drop (i + 1)) := by rw [hd]; simp [fillN]
      rw [prefix_Fill.l0, if_pos (by omega), if_pos (by omega), if_pos (by omega), hw, hr, if_neg (by omega)] at h
      obtain ⟨x, hxx⟩ : ∃ x : Nat, l0[i] = (x : Int) := ⟨l0[i].toNat, by omega⟩
      rw [hxx] at h hxi hf
      rw [Int.toNat_natCast] at hf
      by_cases hz : 0 < x
      · rw [if_pos (by omega), if_pos (by omega)] at h
        have hs : shr .i64 32768 (x : Int) = ((2 ^ (15 - x) : Nat) : Int) := by
          unfold shr
          rw [Int.toNat_natCast, Nat.min_eq_left (by simp [IntKind.bits]; omega)]
          rcases (by omega : x = 1 ∨ x = 2 ∨ x = 3 ∨ x = 4 ∨ x = 5 ∨ x = 6 ∨ x = 7 ∨ x = 8 ∨ x = 9 ∨ x = 10 ∨ x = 11 ∨ x = 12 ∨ x = 13 ∨ x = 14 ∨ x = 15) with rfl | rfl | rfl | rfl | rfl | rfl | rfl | rfl | rfl | rfl | rfl | rfl | rfl | rfl | rfl <;> rfl
        have hp : (2 : Nat) ^ (15 - x) ≤ 2 ^ 15 := Nat.pow_le_pow_right (by omega) (by omega)
        have hu : unit x = 2 ^ (15 - x) := by unfold unit; rw [if_neg (by omega)]
        rw [hs] at h
        have hw2 : wrap64 (acc + ((2 ^ (15 - x) : Nat) : Int)) = acc + ((2 ^ (15 - x) : Nat) : Int) := by unfold wrap64; omega
        rw [hw2] at h
        have := fill_val l0 n hl hx k _ (i + 1) (by omega) (by omega) (by omega) h
        rw [hf, hu]
        omega
      · rw [if_neg (by omega)] at h
        have hu : unit x = 0 := by unfold unit; rw [if_pos (by omega)]
        have := fill_val l0 n hl hx k _ (i + 1) (by omega) (by omega) (by omega) h
        rw [hf, hu]
        omega
    · rw [prefix_Fill.l0, if_neg (by omega)] at h
      simp only [Option.some.injEq, Prod.mk.injEq, and_true] at h
      rw [List.drop_of_length_le (by rw [nat_len]; omega)]
      simp [fillN, h]
theorem fill_is (l0 : List Int) (n : Int) (hok : okW l0 = true) (h : prefix_Fill.f 5000 l0 = some (n, 0)) : n = ((fillN (nat l0) : Nat) : Int) := by
  obtain ⟨hl, hx⟩ : l0.length ≤ 4096 ∧ ∀ x ∈ l0, 0 ≤ x ∧ x ≤ 15 := by simpa [okW] using hok
  unfold prefix_Fill.f at h
  rw [if_neg (by omega)] at h
  have := fill_val l0 n hl hx 5000 0 0 (by omega) (by omega) (by omega) h
  simpa using this
theorem upTo_all (m : Nat) : ∀ (l : List Nat), (∀ x ∈ l, x ≤ m) → upTo l m = fillN l
  | [], _ => by
    have : ∀ m, upTo [] m = 0 := by intro m; induction m with | zero => rfl | succ m ih => simp [upTo, ih, cn]
    rw [this]; rfl
  | x :: l, h => by
    have hx := h x (by simp)
    have ih := upTo_all m l (fun y hy => h y (by simp [hy]))
    rw [upTo_cons, ih]
    unfold fillN
    rw [List.map_cons, List.sum_cons]
    unfold unit
    by_cases h0 : x = 0
    · rw [if_neg (by omega), if_pos h0]; omega
    · rw [if_pos (by omega), if_neg h0]; omega
theorem locate (L : List Nat) (V : Nat) : ∀ m, V < upTo L m → ∃ k, k < m ∧ upTo L k ≤ V ∧ V < upTo L (k + 1)
  | 0, h => by simp [upTo] at h
  | m + 1, h => by
    by_cases hv : V < upTo L m
    · obtain ⟨k, h1, h2⟩ := locate L V m hv
      exact ⟨k, by omega, h2⟩
    · exact ⟨m, by omega, by omega, h⟩
theorem nth_count (x : Nat) : ∀ (L : List Nat) (k : Nat), k < L.count x → ∃ i, ∃ h : i < L.length, L[i] = x ∧ (L.take i).count x = k
  | [], k, h => by simp at h
  | y :: L, k, h => by
    rw [List.count_cons] at h
    by_cases he : y = x
    · cases k with
      | zero => exact ⟨0, by simp, by simpa using he, by simp⟩
      | succ k =>
        rw [if_pos (by simpa using he)] at h
        obtain ⟨i, hi, h1, h2⟩ := nth_count x L k (by omega)
        exact ⟨i + 1, by simpa using hi, by simpa using h1, by rw [List.take_succ_cons, List.count_cons, h2, if_pos (by simpa using he)]⟩
    · rw [if_neg (by simpa using he)] at h
      obtain ⟨i, hi, h1, h2⟩ := nth_count x L k (by omega)
      exact ⟨i + 1, by simpa using hi, by simpa using h1, by rw [List.take_succ_cons, List.count_cons, h2, if_neg (by simpa using he)]; rfl⟩
/-- Of a whole code any 15 bits begin with a word. -/
theorem cover (L : List Nat) (hf : fillN L = 32768) (h15 : ∀ x ∈ L, x ≤ 15) (V : Nat) (hV : V < 32768) : ∃ i, ∃ h : i < L.length, 0 < L[i] ∧ V / 2 ^ (15 - L[i]) = wordN L i := by
  have hall := upTo_all 15 L h15
  obtain ⟨m, hm, h1, h2⟩ := locate L V 15 (by omega)
  have e1 := first_upTo L m (by omega)
  rw [upTo, show 15 - (m + 1) = 14 - m by omega, ← e1, ← Nat.add_mul] at h2
  rw [← e1] at h1
  have hp : 0 < 2 ^ (14 - m) := Nat.pow_pos (by omega)
  have h3 := (Nat.le_div_iff_mul_le hp).2 h1
  have h4 := (Nat.div_lt_iff_lt_mul hp).2 h2
  have hc : cn L (m + 1) = L.count (m + 1) := by unfold cn; rw [if_neg (by omega)]
  obtain ⟨i, hi, h5, h6⟩ := nth_count (m + 1) L (V / 2 ^ (14 - m) - firstN L (m + 1)) (by omega)
  refine ⟨i, hi, by omega, ?_⟩
  have hg : L.getD i 0 = m + 1 := by rw [List.getD_eq_getElem?_getD, List.getElem?_eq_getElem hi, Option.getD_some, h5]
  unfold wordN
  rw [hg, h6, h5, show 15 - (m + 1) = 14 - m by omega]
  omega
theorem mostW_ge (ls : List Int) : ∀ j, 0 ≤ mostW ls j ∧ ∀ i, i < j → ls.getD i 0 ≤ mostW ls j
  | 0 => ⟨by simp [mostW], fun i h => absurd h (Nat.not_lt_zero _)⟩
  | j + 1 => by
    obtain ⟨h0, h1⟩ := mostW_ge ls j
    rw [mostW]
    refine ⟨by split <;> omega, fun i hi => ?_⟩
    by_cases he : i = j
    · subst he; split <;> omega
    · have := h1 i (by omega); split <;> omega
theorem signs_tell (ls ws : List Int) (t : Wd) (u : Value) : ∀ j, signsG ls ws j t = some u → ∃ i, i < j ∧ u = .int .i64 (i : Int) ∧ ls.getD i 0 > 0 ∧ t = wd (ls.getD i 0) (ws.getD i 0)
  | 0, h => by simp [signsG] at h
  | j + 1, h => by
    rw [signsG] at h
    by_cases hz : ls.getD j 0 > 0
    · rw [if_pos hz] at h
      unfold upd at h
      by_cases ht : t = wd (ls.getD j 0) (ws.getD j 0)
      · rw [if_pos ht] at h
        exact ⟨j, by omega, by injection h with h; exact h.symm, hz, ht⟩
      · rw [if_neg ht] at h
        obtain ⟨i, h1, h2⟩ := signs_tell ls ws t u j h
        exact ⟨i, by omega, h2⟩
    · rw [if_neg hz] at h
      obtain ⟨i, h1, h2⟩ := signs_tell ls ws t u j h
      exact ⟨i, by omega, h2⟩
theorem signs_there (ls ws : List Int) (i : Nat) (hi : ls.getD i 0 > 0) : ∀ j, i < j → ∃ u, signsG ls ws j (wd (ls.getD i 0) (ws.getD i 0)) = some u
  | 0, h => absurd h (Nat.not_lt_zero _)
  | j + 1, h => by
    rw [signsG]
    by_cases he : i = j
    · subst he
      rw [if_pos hi]
      exact ⟨_, by unfold upd; rw [if_pos rfl]⟩
    · obtain ⟨u, hu⟩ := signs_there ls ws i hi j (by omega)
      split
      · unfold upd
        split
        · exact ⟨_, rfl⟩
        · exact ⟨u, hu⟩
      · exact ⟨u, hu⟩
theorem wd_inj (x v y u : Int) (h0 : 0 ≤ x) (h1 : x < 256) (h2 : 0 ≤ v) (h3 : v < 4294967296) (k0 : 0 ≤ y) (k1 : y < 256) (k2 : 0 ≤ u) (k3 : u < 4294967296) (h : wd x v = wd y u) : x = y ∧ v = u := by
  have e := congrArg encW h
  rw [enc_wd x v h0 h1 h2 h3, enc_wd y u k0 k1 k2 k3] at e
  simpa using e
/-- What New knows of a code. -/
structure CodeOk (ls ws : List Int) : Prop where
  len : ws.length = ls.length
  few : ls.length ≤ 4096
  rng : ∀ x ∈ ls, 0 ≤ x ∧ x ≤ 15
  fit : fillN (nat ls) ≤ 32768
  val : ∀ i, i < ls.length → ws.getD i 0 = if 0 < ls.getD i 0 then ((wordN (nat ls) i : Nat) : Int) else 0
theorem code_ok (l : List Int) (n : Int) (hok : okW l = true) (hF : prefix_Fill.f 5000 l = some (n, 0)) (hn : n ≤ 32768) : CodeOk l (wordsW l).2 := by
  have hn2 := fill_is l n hok hF
  have hf : fillN (nat l) ≤ 32768 := by omega
  obtain ⟨hl, hx⟩ : l.length ≤ 4096 ∧ ∀ x ∈ l, 0 ≤ x ∧ x ≤ 15 := by simpa [okW] using hok
  exact ⟨wordsW_length l, hl, hx, hf, fun i hi => words_get l hok hf i hi⟩
section
variable {ls ws : List Int} (h : CodeOk ls ws)
include h
theorem CodeOk.at_ (i : Nat) (hi : i < ls.length) : ls.getD i 0 = (((nat ls)[i]'(by rw [nat_len]; exact hi) : Nat) : Int) ∧ (nat ls)[i]'(by rw [nat_len]; exact hi) ≤ 15 := by
  have hg : ls.getD i 0 = ls[i] := by rw [List.getD_eq_getElem?_getD, List.getElem?_eq_getElem hi]; rfl
  have := h.rng _ (List.getElem_mem hi)
  rw [nat_get ls i hi, hg]
  omega
theorem CodeOk.word (i : Nat) (hi : i < ls.length) (hp : 0 < (nat ls)[i]'(by rw [nat_len]; exact hi)) : ws.getD i 0 = ((wordN (nat ls) i : Nat) : Int) ∧ wordN (nat ls) i < 2 ^ (nat ls)[i]'(by rw [nat_len]; exact hi) ∧ wordN (nat ls) i < 32768 := by
  obtain ⟨h1, h2⟩ := h.at_ i hi
  have h3 := h.val i hi
  rw [if_pos (by omega)] at h3
  have h4 := word_fit (nat ls) h.fit i (by rw [nat_len]; exact hi) hp h2
  have h5 : (2 : Nat) ^ (nat ls)[i]'(by rw [nat_len]; exact hi) ≤ 2 ^ 15 := Nat.pow_le_pow_right (by omega) h2
  exact ⟨h3, h4, by omega⟩
theorem CodeOk.look (x v : Nat) (hx : x ≤ 15) (hv : v < 4294967296) (u : Value) (hu : signsG ls ws ls.length (wd x v) = some u) : ∃ i, ∃ hi : i < ls.length, u = .int .i64 (i : Int) ∧ 0 < x ∧ (nat ls)[i]'(by rw [nat_len]; exact hi) = x ∧ wordN (nat ls) i = v := by
  obtain ⟨i, hi, h1, h2, h3⟩ := signs_tell ls ws _ u _ hu
  obtain ⟨h4, h5⟩ := h.at_ i hi
  obtain ⟨h6, h7, h8⟩ := h.word i hi (by omega)
  rw [h4, h6] at h3
  obtain ⟨e1, e2⟩ := wd_inj _ _ _ _ (by omega) (by omega) (by omega) (by omega) (by omega) (by omega) (by omega) (by omega) h3
  exact ⟨i, hi, h1, by omega, by omega, by omega⟩
theorem CodeOk.has (i : Nat) (hi : i < ls.length) (hp : 0 < (nat ls)[i]'(by rw [nat_len]; exact hi)) : signsG ls ws ls.length (wd (((nat ls)[i]'(by rw [nat_len]; exact hi) : Nat) : Int) ((wordN (nat ls) i : Nat) : Int)) = some (.int .i64 (i : Int)) := by
  obtain ⟨h4, h5⟩ := h.at_ i hi
  obtain ⟨h6, h7, h8⟩ := h.word i hi hp
  obtain ⟨u, hu⟩ := signs_there ls ws i (by omega) ls.length hi
  rw [h4, h6] at hu
  obtain ⟨k, hk, e1, e2, e3, e4⟩ := h.look _ _ h5 (by omega) u hu
  have := word_inj (nat ls) k i (by rw [nat_len]; exact hk) (by rw [nat_len]; exact hi) e3 e4
  rw [hu, e1, this]
theorem CodeOk.most (i : Nat) (hi : i < ls.length) : (((nat ls)[i]'(by rw [nat_len]; exact hi) : Nat) : Int) ≤ mostW ls ls.length := by
  rw [← (h.at_ i hi).1]
  exact (mostW_ge ls ls.length).2 i hi
/-- Where a whole code tells no sign, a word goes on. -/
theorem CodeOk.whole (hw : fillN (nat ls) = 32768) (v t : Nat) (ht : t ≤ 15) (hno : ∀ l, 1 ≤ l → l ≤ t → signsG ls ws ls.length (wd (l : Int) ((rvs v l : Nat) : Int)) = none) :
    (t : Int) < mostW ls ls.length ∧ ∃ i, ∃ hi : i < ls.length, t < (nat ls)[i]'(by rw [nat_len]; exact hi) ∧ wordN (nat ls) i / 2 ^ ((nat ls)[i]'(by rw [nat_len]; exact hi) - t) = rvs v t := by
  have h15 : ∀ x ∈ nat ls, x ≤ 15 := by
    intro x hx
    obtain ⟨i, hi, rfl⟩ := List.mem_iff_getElem.1 hx
    exact (h.at_ i (by rw [nat_len] at hi; exact hi)).2
  have hV : rvs v t * 2 ^ (15 - t) < 32768 := by
    calc rvs v t * 2 ^ (15 - t) < 2 ^ t * 2 ^ (15 - t) := Nat.mul_lt_mul_of_pos_right (rvs_lt v t) (Nat.pow_pos (by omega))
      _ = 32768 := by rw [← Nat.pow_add, show t + (15 - t) = 15 by omega]
  obtain ⟨i, hi, h1, h2⟩ := cover (nat ls) hw h15 _ hV
  have hi' : i < ls.length := by rw [nat_len] at hi; exact hi
  have h3 := h15 _ (List.getElem_mem hi)
  have hm := h.most i hi'
  have hlt : t < (nat ls)[i] := by
    apply Nat.lt_of_not_le
    intro hle
    obtain ⟨d, hd⟩ : ∃ d, t = (nat ls)[i] + d := ⟨t - (nat ls)[i], by omega⟩
    have e : rvs v t * 2 ^ (15 - t) / 2 ^ (15 - (nat ls)[i]) = rvs v (nat ls)[i] := by
      rw [show 15 - (nat ls)[i] = (15 - t) + d by omega, Nat.pow_add, ← Nat.div_div_eq_div_mul, Nat.mul_div_cancel _ (Nat.pow_pos (by omega))]
      have := rvs_pre v (nat ls)[i] d
      rw [← hd] at this
      exact this
    have hn := hno (nat ls)[i] (by omega) hle
    rw [← e, h2, h.has i hi' h1] at hn
    cases hn
  refine ⟨by omega, i, hi', hlt, ?_⟩
  rw [← h2, Nat.div_div_eq_div_mul, ← Nat.pow_add, show 15 - (nat ls)[i] + ((nat ls)[i] - t) = 15 - t by omega, Nat.mul_div_cancel _ (Nat.pow_pos (by omega))]
end
end Go.Proofs.Ytlfcepdaicngjaa.Pk

/- Plain: the reference's words are Kraft's, as texts of 0 and 1. -/
namespace Go.Proofs.Ytlfcepdaicngjaa.Pk
set_option linter.unusedVariables false
set_option linter.unusedSimpArgs false
open Go Go.RowKit Go.Proofs.Ytlfcepdaicngjaa.P Go.Proofs.Ytlfcepdaicngjaa.MapV Go.Proofs.YtlfcepdaicngjaaW.PrintWords Go.Proofs.YtlfcepdaicngjaaW.PrintLast Go.Proofs.YtlfcepdaicngjaaW.PrintMore
theorem wrap_id {x : Int} (h1 : -9223372036854775808 ≤ x) (h2 : x < 9223372036854775808) : wrap64 x = x := by unfold wrap64; omega
/-- Some bytes as a text. -/
def strT (l : List UInt8) : ByteArray := ⟨l.toArray⟩
theorem strT_size (l : List UInt8) : (strT l).size = l.length := by simp [strT, ByteArray.size]
theorem strT_append (a b : List UInt8) : strT a ++ strT b = strT (a ++ b) := by
  apply ByteArray.ext
  simp [strT]
/-- The low n bits of a number as a text, the highest first. -/
def txtN (v : Nat) : Nat → List UInt8
  | 0 => []
  | n + 1 => UInt8.ofNat (48 + v / 2 ^ n % 2) :: txtN v n
theorem txtN_len (v : Nat) : ∀ n, (txtN v n).length = n
  | 0 => rfl
  | n + 1 => by rw [txtN, List.length_cons, txtN_len v n]
/-- The text of a place's word. -/
def wordT (L : List Nat) (j : Nat) : ByteArray := if 0 < L.getD j 0 then strT (txtN (wordN L j) (L.getD j 0)) else ⟨#[]⟩
section
variable (x0 : List Int) (x6 : List ByteArray)
theorem l3_run (m v : Nat) (x7 x8 : Int) (x9 : Bool) (i n : Nat) (hi : i < x6.length) (hn : n ≤ 400) (hin : i < n) (hm : m ≤ 15) (hv : v < 65536) : ∀ (d j q : Nat), j + d = m →
    portmanteauref04_Words.l3 (q + d + 1) x0 x6 x7 x8 x9 m i (strT (txtN v j)) ((v / 2 ^ j : Nat) : Int) j n i = portmanteauref04_Words.l1 q x0 (x6.set i (strT (txtN v m))) x7 x8 x9 m n ((i + 1 : Nat) : Int)
  | 0, j, q, h => by
    obtain rfl : j = m := by omega
    rw [show q + 0 + 1 = q + 1 from rfl, portmanteauref04_Words.l3, if_neg (by omega), if_pos (by omega), if_pos (by omega), wrap_id (by omega) (by omega), Int.toNat_natCast]
    rfl
  | d + 1, j, q, h => by
    have ih := l3_run m v x7 x8 x9 i n hi hn hin hm hv d (j + 1) q (by omega)
    have hb : v / 2 ^ j < 65536 := Nat.lt_of_le_of_lt (Nat.div_le_self _ _) hv
    have hq : v / 2 ^ (j + 1) = v / 2 ^ j / 2 := by rw [Nat.pow_succ, Nat.div_div_eq_div_mul]
    have hl := txtN_len v j
    rw [hq, txtN] at ih
    obtain ⟨y, hy⟩ : ∃ y, v / 2 ^ j = y := ⟨_, rfl⟩
    rw [hy] at ih hb ⊢
    have hch : strOfNums ([((48 + Int.tmod (y : Int) 2) % 4294967296) % 256] : List Int) = strT [UInt8.ofNat (48 + y % 2)] := by
      rw [Int.tmod_eq_emod_of_nonneg (by omega), show ((48 + (y : Int) % 2) % 4294967296) % 256 = ((48 + y % 2 : Nat) : Int) by omega]
      unfold strOfNums strT
      simp only [List.map_cons, List.map_nil, Int.toNat_natCast]
    rw [show q + (d + 1) + 1 = (q + d + 1) + 1 by omega, portmanteauref04_Words.l3, if_pos (by omega), Option.bind_some, hch, strT_size, strT_size, hl, if_pos (by simp; omega), strT_append, Int.tdiv_eq_ediv_of_nonneg (by omega), wrap_id (by omega) (by omega)]
    rw [show (y : Int) / 2 % 4294967296 = ((y / 2 : Nat) : Int) by omega, show (j : Int) + 1 = ((j + 1 : Nat) : Int) by omega]
    exact ih
theorem j3_run (m v : Nat) (x6 : List ByteArray) (i n q : Nat) (hi : i < x6.length) (hn : n ≤ 400) (hin : i < n) (hm : m ≤ 15) (hv : v < 65536) :
    portmanteauref04_Words.j3 (q + m + 2) x0 x6 v m i n i = portmanteauref04_Words.l1 q x0 (x6.set i (strT (txtN v m))) v m false m n ((i + 1 : Nat) : Int) := by
  have h := l3_run x0 x6 m v v m false i n hi hn hin hm hv m 0 q (by omega)
  rw [show q + m + 2 = (q + m + 1) + 1 by omega, portmanteauref04_Words.j3]
  rw [Nat.pow_zero, Nat.div_one] at h
  exact h
theorem l2_run (m : Nat) (x6 : List ByteArray) (i n : Nat) (hm : m ≤ 15) : ∀ (d a k q : Nat), k + d = m → a * 2 ^ d < 65536 → portmanteauref04_Words.l2 (q + d + 1) x0 x6 (a : Int) m i k n i = portmanteauref04_Words.j3 q x0 x6 ((a * 2 ^ d : Nat) : Int) m i n i
  | 0, a, k, q, h, hb => by
    rw [show q + 0 + 1 = q + 1 from rfl, portmanteauref04_Words.l2, if_neg (by omega), Nat.pow_zero, Nat.mul_one]
  | d + 1, a, k, q, h, hb => by
    have hp : a * 2 ^ (d + 1) = a * 2 * 2 ^ d := by rw [Nat.pow_succ, Nat.mul_comm (2 ^ d), Nat.mul_assoc]
    have hle : a * 2 ≤ a * 2 * 2 ^ d := Nat.le_mul_of_pos_right _ (Nat.pow_pos (by omega))
    have ih := l2_run m x6 i n hm d (a * 2) (k + 1) q (by omega) (by omega)
    rw [show q + (d + 1) + 1 = (q + d + 1) + 1 by omega, portmanteauref04_Words.l2, if_pos (by omega), wrap_id (by omega) (by omega), hp]
    rw [show (a : Int) * 2 % 4294967296 = ((a * 2 : Nat) : Int) by omega, show (k : Int) + 1 = ((k + 1 : Nat) : Int) by omega]
    exact ih
end
/-- What is told ahead of place i of length m. -/
structure StW (L : List Nat) (m i : Nat) (out : List ByteArray) (a was : Nat) (first : Bool) : Prop where
  len : out.length = L.length
  val : ∀ j, j < L.length → out.getD j ⟨#[]⟩ = if L.getD j 0 < m ∨ (L.getD j 0 = m ∧ j < i) then wordT L j else ⟨#[]⟩
  fst : first = true → firstN L m + (L.take i).count m = 0
  nxt : first = false → was ≤ m ∧ (a + 1) * 2 ^ (m - was) = firstN L m + (L.take i).count m
theorem set_getD (out : List ByteArray) (i j : Nat) (v : ByteArray) (hi : i < out.length) : (out.set i v).getD j ⟨#[]⟩ = if j = i then v else out.getD j ⟨#[]⟩ := by
  rw [List.getD_eq_getElem?_getD, List.getD_eq_getElem?_getD, List.getElem?_set]
  by_cases h : i = j
  · subst h; simp [hi]
  · rw [if_neg h, if_neg (fun e => h e.symm)]
theorem StW.skip {L : List Nat} {m i : Nat} {out : List ByteArray} {a was : Nat} {first : Bool} (h : StW L m i out a was first) (hi : i < L.length) (hne : L.getD i 0 ≠ m) : StW L m (i + 1) out a was first := by
  have hg : L.getD i 0 = L[i] := by rw [List.getD_eq_getElem?_getD, List.getElem?_eq_getElem hi]; rfl
  have hc : (L.take (i + 1)).count m = (L.take i).count m := by
    rw [List.take_succ_eq_append_getElem hi, List.count_append, List.count_singleton, if_neg (by simpa [← hg] using hne)]; rfl
  refine ⟨h.len, fun j hj => ?_, fun q => by rw [hc]; exact h.fst q, fun q => by rw [hc]; exact h.nxt q⟩
  rw [h.val j hj]
  by_cases e : j = i
  · subst e
    by_cases q : L.getD j 0 < m
    · rw [if_pos (.inl q), if_pos (.inl q)]
    · rw [if_neg (by omega), if_neg (by omega)]
  · have : (L.getD j 0 < m ∨ (L.getD j 0 = m ∧ j < i)) ↔ (L.getD j 0 < m ∨ (L.getD j 0 = m ∧ j < i + 1)) := by omega
    by_cases q : L.getD j 0 < m ∨ (L.getD j 0 = m ∧ j < i)
    · rw [if_pos q, if_pos (this.1 q)]
    · rw [if_neg q, if_neg (fun r => q (this.2 r))]
theorem StW.put {L : List Nat} {m i : Nat} {out : List ByteArray} {a was : Nat} {first : Bool} (h : StW L m i out a was first) (hi : i < L.length) (he : L.getD i 0 = m) (hm : 0 < m) : StW L m (i + 1) (out.set i (strT (txtN (wordN L i) m))) (wordN L i) m false := by
  have hg : L.getD i 0 = L[i] := by rw [List.getD_eq_getElem?_getD, List.getElem?_eq_getElem hi]; rfl
  have hc : (L.take (i + 1)).count m = (L.take i).count m + 1 := by
    rw [List.take_succ_eq_append_getElem hi, List.count_append, List.count_singleton, if_pos (by rw [← hg, he]; simp)]
  have hw : wordN L i = firstN L m + (L.take i).count m := by unfold wordN; rw [he]
  refine ⟨by rw [List.length_set]; exact h.len, fun j hj => ?_, (fun q => by cases q), fun _ => ⟨Nat.le_refl _, by rw [Nat.sub_self, hc, hw]; omega⟩⟩
  rw [set_getD _ _ _ _ (by rw [h.len]; exact hi)]
  by_cases e : j = i
  · subst e
    rw [if_pos rfl, if_pos (.inr ⟨he, by omega⟩)]
    unfold wordT
    rw [if_pos (by omega), he]
  · rw [if_neg e, h.val j hj]
    have : (L.getD j 0 < m ∨ (L.getD j 0 = m ∧ j < i)) ↔ (L.getD j 0 < m ∨ (L.getD j 0 = m ∧ j < i + 1)) := by omega
    by_cases q : L.getD j 0 < m ∨ (L.getD j 0 = m ∧ j < i)
    · rw [if_pos q, if_pos (this.1 q)]
    · rw [if_neg q, if_neg (fun r => q (this.2 r))]
theorem StW.next {L : List Nat} {m : Nat} {out : List ByteArray} {a was : Nat} {first : Bool} (h : StW L m L.length out a was first) (hm : 0 < m) : StW L (m + 1) 0 out a was first := by
  have hc : cn L m = L.count m := by unfold cn; rw [if_neg (by omega)]
  have hf : firstN L (m + 1) = 2 * (firstN L m + L.count m) := by rw [← hc]; rfl
  refine ⟨h.len, fun j hj => ?_, fun q => ?_, fun q => ?_⟩
  · rw [h.val j hj]
    have : (L.getD j 0 < m ∨ (L.getD j 0 = m ∧ j < L.length)) ↔ (L.getD j 0 < m + 1 ∨ (L.getD j 0 = m + 1 ∧ j < 0)) := by omega
    by_cases q : L.getD j 0 < m ∨ (L.getD j 0 = m ∧ j < L.length)
    · rw [if_pos q, if_pos (this.1 q)]
    · rw [if_neg q, if_neg (fun r => q (this.2 r))]
  · have := h.fst q
    rw [List.take_length] at this
    simp [hf]; omega
  · obtain ⟨h1, h2⟩ := h.nxt q
    rw [List.take_length] at h2
    refine ⟨by omega, ?_⟩
    rw [hf, show m + 1 - was = m - was + 1 by omega, Nat.pow_succ, ← Nat.mul_assoc, h2]
    simp; omega
/-- All words. -/
def FinW (L : List Nat) (o : List ByteArray) : Prop := o.length = L.length ∧ ∀ j, j < L.length → o.getD j ⟨#[]⟩ = wordT L j
theorem inner_run (l0 : List Int) (hx : ∀ x ∈ l0, 0 ≤ x ∧ x ≤ 15) (hf : fillN (nat l0) ≤ 32768) (hn : l0.length ≤ 400) (m K : Nat) (hm1 : 1 ≤ m) (hm : m ≤ 15)
    (hnext : ∀ k out a was first, K ≤ k → StW (nat l0) m l0.length out a was first → ∃ o, portmanteauref04_Words.l0 k l0 out (a : Int) (was : Int) first ((m + 1 : Nat) : Int) = some (o, 0) ∧ FinW (nat l0) o) :
    ∀ (d i k : Nat) (out : List ByteArray) (a was : Nat) (first : Bool), i + d = l0.length → 40 * d + K + 1 ≤ k → StW (nat l0) m i out a was first → ∃ o, portmanteauref04_Words.l1 k l0 out (a : Int) (was : Int) first (m : Int) (l0.length : Int) (i : Int) = some (o, 0) ∧ FinW (nat l0) o
  | 0, i, k, out, a, was, first, hi, hk, h => by
    obtain ⟨k, rfl⟩ : ∃ q, k = q + 1 := ⟨k - 1, by omega⟩
    obtain rfl : i = l0.length := by omega
    rw [portmanteauref04_Words.l1, if_neg (by omega), wrap_id (by omega) (by omega)]
    exact hnext k out a was first (by omega) h
  | d + 1, i, k, out, a, was, first, hi, hk, h => by
    obtain ⟨k, rfl⟩ : ∃ q, k = q + 1 := ⟨k - 1, by omega⟩
    have hil : i < l0.length := by omega
    have hol := h.len
    rw [nat_len] at hol
    have hil2 : i < (nat l0).length := by rw [nat_len]; exact hil
    have hxi := hx _ (List.getElem_mem hil)
    have hr : rd l0 (i : Int) = l0[i] := by unfold rd; rw [Int.toNat_natCast, List.getD_eq_getElem?_getD, List.getElem?_eq_getElem hil, Option.getD_some]
    have hgd : (nat l0).getD i 0 = l0[i].toNat := by rw [nat_getD, List.getD_eq_getElem?_getD, List.getElem?_eq_getElem hil, Option.getD_some]
    have hgl : (nat l0)[i] = l0[i].toNat := nat_get l0 i hil
    rw [portmanteauref04_Words.l1, if_pos (by omega), if_pos (by omega), if_pos (by omega), hr, wrap_id (x := l0[i]) (by omega) (by omega)]
    by_cases he : l0[i] = (m : Int)
    · have hw := word_fit (nat l0) hf i hil2 (by omega) (by omega)
      have h215 : (2 : Nat) ^ (nat l0)[i] ≤ 2 ^ 15 := Nat.pow_le_pow_right (by omega) (by omega)
      have hwd : wordN (nat l0) i = firstN (nat l0) m + ((nat l0).take i).count m := by unfold wordN; rw [show (nat l0).getD i 0 = m by omega]
      have hp := h.put hil2 (by omega) (by omega)
      rw [if_pos he]
      cases first with
      | true =>
        have h0 := h.fst rfl
        obtain ⟨q, hq⟩ : ∃ q, k = q + m + 2 := ⟨k - m - 2, by omega⟩
        rw [if_pos rfl, hq]
        have hj := j3_run l0 m (wordN (nat l0) i) out i l0.length q (by omega) hn hil hm (by omega)
        rw [show ((wordN (nat l0) i : Nat) : Int) = 0 by omega] at hj
        rw [hj]
        have := inner_run l0 hx hf hn m K hm1 hm hnext d (i + 1) q _ _ _ _ (by omega) (by omega) hp
        rwa [show ((wordN (nat l0) i : Nat) : Int) = 0 by omega] at this
      | false =>
        obtain ⟨h1, h2⟩ := h.nxt rfl
        have hle : a + 1 ≤ (a + 1) * 2 ^ (m - was) := Nat.le_mul_of_pos_right _ (Nat.pow_pos (by omega))
        obtain ⟨q, hq⟩ : ∃ q, k = q + m + 2 + (m - was) + 1 := ⟨k - m - 2 - (m - was) - 1, by omega⟩
        rw [if_neg (by decide), hq]
        have hl := l2_run l0 m out i l0.length hm (m - was) (a + 1) was (q + m + 2) (by omega) (by omega)
        have hj := j3_run l0 m (wordN (nat l0) i) out i l0.length q (by omega) hn hil hm (by omega)
        rw [show ((a : Int) + 1) % 4294967296 = ((a + 1 : Nat) : Int) by omega, hl, show (a + 1) * 2 ^ (m - was) = wordN (nat l0) i by omega, hj]
        exact inner_run l0 hx hf hn m K hm1 hm hnext d (i + 1) q _ _ _ _ (by omega) (by omega) hp
    · rw [if_neg he, wrap_id (by omega) (by omega), show (i : Int) + 1 = ((i + 1 : Nat) : Int) by omega]
      exact inner_run l0 hx hf hn m K hm1 hm hnext d (i + 1) k _ _ _ _ (by omega) (by omega) (h.skip hil2 (by omega))
theorem outer_run (l0 : List Int) (hx : ∀ x ∈ l0, 0 ≤ x ∧ x ≤ 15) (hf : fillN (nat l0) ≤ 32768) (hn : l0.length ≤ 400) : ∀ (e m k : Nat) (out : List ByteArray) (a was : Nat) (first : Bool), m + e = 16 → 1 ≤ m → 20000 * e + 1 ≤ k → StW (nat l0) m 0 out a was first →
    ∃ o, portmanteauref04_Words.l0 k l0 out (a : Int) (was : Int) first (m : Int) = some (o, 0) ∧ FinW (nat l0) o
  | 0, m, k, out, a, was, first, hm, h1, hk, h => by
    obtain ⟨k, rfl⟩ : ∃ q, k = q + 1 := ⟨k - 1, by omega⟩
    rw [portmanteauref04_Words.l0, if_neg (by omega)]
    refine ⟨_, rfl, h.len, fun j hj => ?_⟩
    have hj2 : j < l0.length := by rw [nat_len] at hj; exact hj
    have hxj := hx _ (List.getElem_mem hj2)
    have hg : (nat l0).getD j 0 = l0[j].toNat := by rw [nat_getD, List.getD_eq_getElem?_getD, List.getElem?_eq_getElem hj2, Option.getD_some]
    rw [h.val j hj, if_pos (.inl (by omega))]
  | e + 1, m, k, out, a, was, first, hm, h1, hk, h => by
    obtain ⟨k, rfl⟩ : ∃ q, k = q + 1 := ⟨k - 1, by omega⟩
    rw [portmanteauref04_Words.l0, if_pos (by omega)]
    exact inner_run l0 hx hf hn m (20000 * e + 1) h1 (by omega) (fun k out a was first hk hs => outer_run l0 hx hf hn e (m + 1) k out a was first (by omega) (by omega) hk (by rw [← nat_len] at hs; exact hs.next (by omega))) l0.length 0 k out a was first (by omega) (by omega) h
theorem words_start (L : List Nat) : StW L 1 0 (List.replicate L.length ⟨#[]⟩) 0 0 true := by
  refine ⟨by simp, fun j hj => ?_, fun _ => by simp [firstN, cn], fun q => by cases q⟩
  have hr : (List.replicate L.length (⟨#[]⟩ : ByteArray)).getD j ⟨#[]⟩ = ⟨#[]⟩ := by
    rw [List.getD_eq_getElem?_getD, List.getElem?_replicate]
    split <;> rfl
  rw [hr]
  split
  · unfold wordT; rw [if_neg (by omega)]
  · rfl
end Go.Proofs.Ytlfcepdaicngjaa.Pk
