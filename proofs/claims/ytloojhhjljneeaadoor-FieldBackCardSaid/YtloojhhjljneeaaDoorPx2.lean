/- Written by a program of this session (wip/print2: a patched copy of a printer), not by print.sh: Lean functions with the answers of the Go functions, and the proofs of that; no condition beside those that stand in each theorem. -/
import Derived.Test.YtloojhhjljneeaaDoorPx0
namespace Go.Proofs.YtloojhhjljneeaaDoor.P
open Go.RowKit Go.Proofs.YtloojhhjljneeaaDoorW.PrintWords Go.Proofs.YtloojhhjljneeaaDoorW.PrintLast Go.Proofs.YtloojhhjljneeaaDoorW.PrintMore
attribute [local go_sem] max2_int min2_int max_two min_two max_three min_three max_four min_four   -- for this text's walks alone
set_option linter.unusedVariables false
set_option linter.unusedSimpArgs false

/-- A state of type 71 at block g of W; what its slices lead to came in by w0. -/
def IsS71 (w0 W : World) (g : Nat) (f0 : ByteArray) (f1 : Int) (f2 : Int) : Prop := W.heap[g]? = some (.cells #[.string f0, .int .i64 f1, .int .i64 f2] 71 (0, 0)) ∧ w0.heap.size ≤ g
theorem IsS71.grown {w0 W : World} {g : Nat} {f0 : ByteArray} {f1 : Int} {f2 : Int} {W1 : World} {row : Option Nat} (h : IsS71 w0 W g f0 f1 f2) (hw : W.grownBy W1 row) (hne : some g ≠ row) : IsS71 w0 W1 g f0 f1 f2 := by
  obtain ⟨hb, hg⟩ := h
  exact ⟨blk_grown hb hw hne, hg⟩
theorem IsS71.own_neN {w0 W : World} {g : Nat} {f0 : ByteArray} {f1 : Int} {f2 : Int} {α : Type} {d : Kd α} {e : Nat} {base : Nat} {ok : Nat → Prop} {v : Value} {xs : List α} (h : IsS71 w0 W g f0 f1 f2) (ho : Kd.N d e W base ok v xs) (ht : e ≠ 71) : some g ≠ v.ownBlock := by
  obtain ⟨hb, hg⟩ := h
  exact Kd.N_ne ho hb ht
theorem IsS71.fresh {w0 W : World} {g : Nat} {f0 : ByteArray} {f1 : Int} {f2 : Int} (h : IsS71 w0 W g f0 f1 f2) : ∀ k, W.heap.size ≤ k → k ≠ g := by
  obtain ⟨hb, hg⟩ := h
  exact Kd.freshB hb
theorem IsS71.kept {w0 W : World} {g : Nat} {f0 : ByteArray} {f1 : Int} {f2 : Int} {W1 : World} {S : Nat → Prop} (h : IsS71 w0 W g f0 f1 f2) (hk : Kept W W1 S) (hne : ¬ S g) : IsS71 w0 W1 g f0 f1 f2 := by
  obtain ⟨hb, hg⟩ := h
  exact ⟨blk_kept hb hk hne, hg⟩
theorem IsS71.below {w0 W : World} {g : Nat} {f0 : ByteArray} {f1 : Int} {f2 : Int} {W1 : World} (h : IsS71 w0 W g f0 f1 f2) (hw : Below W.heap.size W W1) : IsS71 w0 W1 g f0 f1 f2 := h.grown (grown_of_below hw none) (by simp)
theorem IsS71.alloc {w0 W : World} {g : Nat} {f0 : ByteArray} {f1 : Int} {f2 : Int} (h : IsS71 w0 W g f0 f1 f2) (o : Obj) : IsS71 w0 (W.alloc o) g f0 f1 f2 := h.below (below_alloc (Below.refl _ _) o)
theorem IsS71.drewN {w0 W : World} {g : Nat} {f0 : ByteArray} {f1 : Int} {f2 : Int} (h : IsS71 w0 W g f0 f1 f2) (m : Nat) : IsS71 w0 (W.drewN m) g f0 f1 f2 := h
theorem IsS71.drew {w0 W : World} {g : Nat} {f0 : ByteArray} {f1 : Int} {f2 : Int} (h : IsS71 w0 W g f0 f1 f2) : IsS71 w0 W.drew g f0 f1 f2 := h
theorem IsS71.at_ {w0 W : World} {g : Nat} {f0 : ByteArray} {f1 : Int} {f2 : Int} {w' : World} {m : Nat} (hq : W.drewN m = w') (h : IsS71 w0 W g f0 f1 f2) : IsS71 w0 w' g f0 f1 f2 := by subst hq; exact IsS71.drewN h m
theorem IsS71.apart {w0 W : World} {g : Nat} {f0 : ByteArray} {f1 : Int} {f2 : Int} {α : Type} {d : Kd α} {e : Nat} {base : Nat} {ok : Nat → Prop} {v : Value} {xs : List α} (h : IsS71 w0 W g f0 f1 f2) (ho : d.R e W base ok v xs) (ht : ∀ q, q ∈ e :: d.E → q ≠ 71) : d.R e W base (fun k => ok k ∧ k ≠ g) v xs := by
  obtain ⟨hb, hg⟩ := h
  exact Kd.R_types ho hb ht
theorem IsS71.own_ne {w0 W : World} {g : Nat} {f0 : ByteArray} {f1 : Int} {f2 : Int} {α : Type} {d : Kd α} {e : Nat} {base : Nat} {ok : Nat → Prop} {v : Value} {xs : List α} (h : IsS71 w0 W g f0 f1 f2) (ho : d.R e W base ok v xs) (ht : e ≠ 71) : some g ≠ v.ownBlock := by
  obtain ⟨hb, hg⟩ := h
  exact Kd.R_ne ho hb ht
theorem IsS71.apartQ {w0 W : World} {g : Nat} {f0 : ByteArray} {f1 : Int} {f2 : Int} {α : Type} {d : Kd α} {e : Nat} {base : Nat} {ok : Nat → Prop} {v : Value} {xs : List α} (h : IsS71 w0 W g f0 f1 f2) (ho : d.Q e W base ok v xs) (ht : ∀ q, q ∈ e :: d.E → q ≠ 71) : d.Q e W base (fun k => ok k ∧ k ≠ g) v xs := by
  obtain ⟨hb, hg⟩ := h
  exact Kd.Q_types ho hb ht
theorem IsS71.own_neQ {w0 W : World} {g : Nat} {f0 : ByteArray} {f1 : Int} {f2 : Int} {α : Type} {d : Kd α} {e : Nat} {base : Nat} {ok : Nat → Prop} {v : Value} {xs : List α} (h : IsS71 w0 W g f0 f1 f2) (ho : d.Q e W base ok v xs) (ht : e ≠ 71) : some g ≠ v.ownBlock := by
  obtain ⟨hb, hg⟩ := h
  exact Kd.Q_ne ho hb ht
theorem IsS71.apartS {w0 W : World} {g : Nat} {f0 : ByteArray} {f1 : Int} {f2 : Int} {α : Type} {d : Kd α} {e : Nat} {base : Nat} {ok : Nat → Prop} {v : Value} {xs : List α} (h : IsS71 w0 W g f0 f1 f2) (ho : d.S e W base ok v xs) (ht : ∀ q, q ∈ e :: d.E → q ≠ 71) : d.S e W base (fun k => ok k ∧ k ≠ g) v xs := by
  obtain ⟨hb, hg⟩ := h
  exact Kd.S_types ho hb ht
theorem IsS71.own_neS {w0 W : World} {g : Nat} {f0 : ByteArray} {f1 : Int} {f2 : Int} {α : Type} {d : Kd α} {e : Nat} {base : Nat} {ok : Nat → Prop} {v : Value} {xs : List α} (h : IsS71 w0 W g f0 f1 f2) (ho : d.S e W base ok v xs) (ht : e ≠ 71) : some g ≠ v.ownBlock := by
  obtain ⟨hb, hg⟩ := h
  exact Kd.S_ne ho hb ht
theorem IsS71.lt {w0 W : World} {g : Nat} {f0 : ByteArray} {f1 : Int} {f2 : Int} (h : IsS71 w0 W g f0 f1 f2) : g < W.heap.size := by
  obtain ⟨hb, hg⟩ := h
  exact blk_lt hb
theorem IsS71.ge {w0 W : World} {g : Nat} {f0 : ByteArray} {f1 : Int} {f2 : Int} (h : IsS71 w0 W g f0 f1 f2) : w0.heap.size ≤ g := by
  obtain ⟨hb, hg⟩ := h
  exact hg
theorem IsS71.ne_blk {w0 W : World} {g : Nat} {f0 : ByteArray} {f1 : Int} {f2 : Int} {a : Nat} {cs : Array Value} {t : TypeId} {fr : Nat × Nat} (h : IsS71 w0 W g f0 f1 f2) (hb2 : W.heap[a]? = some (.cells cs t fr)) (ht : t ≠ 71) : g ≠ a := by
  obtain ⟨hb, hg⟩ := h
  rintro rfl
  rw [hb] at hb2
  injection hb2 with hb2
  injection hb2 with _ ht2
  exact ht ht2.symm
theorem IsS71.far {w0 W : World} {g : Nat} {f0 : ByteArray} {f1 : Int} {f2 : Int} {p : Addr} (h : IsS71 w0 W g f0 f1 f2) (hne : g ≠ p.block) (u : Value) : IsS71 w0 (W.setCell p u) g f0 f1 f2 := by
  obtain ⟨hb, hg⟩ := h
  exact ⟨blk_far hb hne u, hg⟩
theorem cellS71_0 {W : World} {g : Nat} {f0 : ByteArray} {f1 : Int} {f2 : Int} (h : W.heap[g]? = some (.cells #[.string f0, .int .i64 f1, .int .i64 f2] 71 (0, 0))) : W.cell? ⟨g, 0, none⟩ = some (.string f0) := (blk_cell h 0).trans rfl
theorem IsS71.set_0 {w0 W : World} {g : Nat} {f0 : ByteArray} {f1 : Int} {f2 : Int} (h : IsS71 w0 W g f0 f1 f2) (x : ByteArray) : IsS71 w0 (W.setCell ⟨g, 0, none⟩ (.string x)) g x f1 f2 := by
  obtain ⟨hb, hg⟩ := h
  exact ⟨by simpa using blk_set hb 0 (.string x), hg⟩
theorem cellS71_1 {W : World} {g : Nat} {f0 : ByteArray} {f1 : Int} {f2 : Int} (h : W.heap[g]? = some (.cells #[.string f0, .int .i64 f1, .int .i64 f2] 71 (0, 0))) : W.cell? ⟨g, 1, none⟩ = some (.int .i64 f1) := (blk_cell h 1).trans rfl
theorem IsS71.set_1 {w0 W : World} {g : Nat} {f0 : ByteArray} {f1 : Int} {f2 : Int} (h : IsS71 w0 W g f0 f1 f2) (x : Int) : IsS71 w0 (W.setCell ⟨g, 1, none⟩ (.int .i64 x)) g f0 x f2 := by
  obtain ⟨hb, hg⟩ := h
  exact ⟨by simpa using blk_set hb 1 (.int .i64 x), hg⟩
theorem cellS71_2 {W : World} {g : Nat} {f0 : ByteArray} {f1 : Int} {f2 : Int} (h : W.heap[g]? = some (.cells #[.string f0, .int .i64 f1, .int .i64 f2] 71 (0, 0))) : W.cell? ⟨g, 2, none⟩ = some (.int .i64 f2) := (blk_cell h 2).trans rfl
theorem IsS71.set_2 {w0 W : World} {g : Nat} {f0 : ByteArray} {f1 : Int} {f2 : Int} (h : IsS71 w0 W g f0 f1 f2) (x : Int) : IsS71 w0 (W.setCell ⟨g, 2, none⟩ (.int .i64 x)) g f0 f1 x := by
  obtain ⟨hb, hg⟩ := h
  exact ⟨by simpa using blk_set hb 2 (.int .i64 x), hg⟩
theorem IsS71.new (w0 W : World) (f0 : ByteArray) (f1 : Int) (f2 : Int) (hB : Below w0.heap.size w0 W) : IsS71 w0 (W.alloc (.cells #[.string f0, .int .i64 f1, .int .i64 f2] 71)) W.heap.size f0 f1 f2 := ⟨by simpa using heap_alloc_new W _, hB.size⟩

/-! ### cursor_Over: function 17 -/
def cursor_Over.f (a0 : ByteArray) : Option (ByteArray × Int × Int) := some (a0, 0, 0)
set_option maxHeartbeats 8000000 in
set_option maxRecDepth 100000 in
theorem cursor_Over.calls (a0 : ByteArray) (r1 : ByteArray) (r2 : Int) (r3 : Int) (w0 w : World) (hB : Below w0.heap.size w0 w) (h : cursor_Over.f a0 = some (r1, r2, r3)) :
    Calls Tryd.prog 17 #[.string a0] w fun e w' => ∃ g_ : Nat, e = .returned (.pointer (some ⟨g_, 0, none⟩)) ∧ IsS71 w0 w' g_ r1 r2 r3 ∧ Below w0.heap.size w0 w' ∧ Below w.heap.size w w' := by
  have hu71 := Tryd.underlying71
  have HBW := Aside0.mk (Below.refl w.heap.size w)
  have HW0 := Aside0.mk hB.size
  have HB := Aside0.mk hB
  clear hB
  have H : (some (a0, 0, 0)) = some (r1, r2, r3) := h
  clear h
  simp only [Option.some.injEq, Prod.mk.injEq] at H
  obtain ⟨rfl, rfl, rfl⟩ := H
  go_enter Tryd.func17, Tryd.ntmps17
  go_wp2_with (first | ((with_reducible refine gate_dst (N := 5) rfl ?_); refine box_event ?hg (N := 5) ?hd (cs := #[.string a0, .int .i64 0, .int .i64 0]) (t := 71) ?hr ?_; (case hd => rfl); (case hg => rfl); (case hr => first | (go_simp; done) | (go_simp; rfl)); intro gb109 hg w2 hbox hb; have n0_ := Aside0.mk (below_step HBW.out hb); have n1_ := Aside0.mk (below_step (by repeat (first | (with_reducible first | exact HB.out | apply below_alloc | apply pw_below_drewN | apply below_drew1) | exact HB.out)) hb); have n2_ := Aside0.mk (hbox); have n3_ := Aside0.mk ((by rw [hg]; exact (below_size (by repeat (first | (with_reducible first | exact HBW.out | apply below_alloc | apply pw_below_drewN | apply below_drew1) | exact HBW.out))) : w.heap.size ≤ gb109)); have n4_ := Aside0.mk ((Nat.le_trans HW0.out (by rw [hg]; exact (below_size (by repeat (first | (with_reducible first | exact HBW.out | apply below_alloc | apply pw_below_drewN | apply below_drew1) | exact HBW.out))) : w.heap.size ≤ gb109) : w0.heap.size ≤ gb109)); clear HBW; clear HB; have HBW := n0_; have HB := n1_; have BK109 := n2_; have GW109 := n3_; have GE109 := n4_; clear n0_ n1_ n2_ n3_ n4_; clear hb hbox hg))
  go_ret
  exact ⟨_, rfl, (show IsS71 w0 _ gb109 a0 0 0 from ⟨by (with_reducible repeat (first | refine blk_drewN ?_ _ | refine blk_drew ?_ | refine blk_alloc ?_ _)); exact BK109.out, GE109.out⟩), by repeat (first | (with_reducible first | exact HB.out | apply below_alloc | apply pw_below_drewN | apply below_drew1 | refine below_set ?_ GE109.out) | exact HB.out), by repeat (first | (with_reducible first | exact HBW.out | apply below_alloc | apply pw_below_drewN | apply below_drew1 | refine below_set ?_ GW109.out) | exact HBW.out)⟩

/-! ### cursor_Cursor_Take: function 20 -/
def cursor_Cursor_Take.f (s0_0 : ByteArray) (s0_1 : Int) (s0_2 : Int) (a1 : Int) : Option (ByteArray × ByteArray × Int × Int) := if s0_2 = 0 then (if a1 < 0 then (some ((⟨#[]⟩ : ByteArray), s0_0, s0_1, 3)) else (if a1 > (wrap64 ((s0_0.size : Int) - s0_1)) then (some ((⟨#[]⟩ : ByteArray), s0_0, s0_1, 3)) else (if 0 ≤ s0_1 then (if s0_1 ≤ (wrap64 (s0_1 + a1)) then (if (wrap64 (s0_1 + a1)) ≤ (s0_0.size : Int) then (some (s0_0.extract (s0_1 : Int).toNat ((wrap64 (s0_1 + a1)) : Int).toNat, s0_0, wrap64 (s0_1 + a1), s0_2)) else (none)) else (none)) else (none)))) else (some ((⟨#[]⟩ : ByteArray), s0_0, s0_1, s0_2))
set_option maxHeartbeats 8000000 in
set_option maxRecDepth 100000 in
theorem cursor_Cursor_Take.calls (g : Nat) (s0_0 : ByteArray) (s0_1 : Int) (s0_2 : Int) (a1 : Int) (r1 : ByteArray) (r2 : ByteArray) (r3 : Int) (r4 : Int) (w0 w : World) (hI : IsS71 w0 w g s0_0 s0_1 s0_2) (hB : Below w0.heap.size w0 w) (h : cursor_Cursor_Take.f s0_0 s0_1 s0_2 a1 = some (r1, r2, r3, r4)) :
    Calls Tryd.prog 20 #[.pointer (some ⟨g, 0, none⟩), .int .i64 a1] w fun e w' => e = .returned (.string r1) ∧ IsS71 w0 w' g r2 r3 r4 ∧ Below w0.heap.size w0 w' ∧ KeepBut w w' g none := by
  have HI0 := Aside0.mk hI
  have HK := Aside0.mk (KeepBut.refl w g none)
  have HL := Aside0.mk hB.size
  clear hI
  have HW0 := Aside0.mk hB.size
  have HB := Aside0.mk hB
  clear hB
  have H : (if s0_2 = 0 then (if a1 < 0 then (some ((⟨#[]⟩ : ByteArray), s0_0, s0_1, 3)) else (if a1 > (wrap64 ((s0_0.size : Int) - s0_1)) then (some ((⟨#[]⟩ : ByteArray), s0_0, s0_1, 3)) else (if 0 ≤ s0_1 then (if s0_1 ≤ (wrap64 (s0_1 + a1)) then (if (wrap64 (s0_1 + a1)) ≤ (s0_0.size : Int) then (some (s0_0.extract (s0_1 : Int).toNat ((wrap64 (s0_1 + a1)) : Int).toNat, s0_0, wrap64 (s0_1 + a1), s0_2)) else (none)) else (none)) else (none)))) else (some ((⟨#[]⟩ : ByteArray), s0_0, s0_1, s0_2))) = some (r1, r2, r3, r4) := h
  clear h
  by_cases c3 : s0_2 = 0
  · rw [if_pos c3] at H
    have c3b0 : (s0_2 == 0) = true := beq_iff_eq.mpr c3
    have c3b1 : (s0_2 != 0) = false := bne_eq_false_iff_eq.mpr c3
    clear c3
    by_cases c4 : a1 < 0
    · rw [if_pos c4] at H
      have c4b0 : decide (a1 < 0) = true := decide_eq_true c4
      clear c4
      simp only [Option.some.injEq, Prod.mk.injEq] at H
      obtain ⟨rfl, rfl, rfl, rfl⟩ := H
      obtain ⟨HGz5, hgz5⟩ := HI0.out
      have hcz5_0 := cellS71_0 HGz5
      have hcz5_1 := cellS71_1 HGz5
      have hcz5_2 := cellS71_2 HGz5
      have hfz5_0 := blk_frozen HGz5 0
      have hfz5_1 := blk_frozen HGz5 1
      have hfz5_2 := blk_frozen HGz5 2
      clear HGz5 hgz5
      go_enter Tryd.func20, Tryd.ntmps20
      go_wp2
      repeat (go_quiet (fail); try go_wp2)
      go_ret
      exact ⟨by first | rfl | (simp [errW_none, errW_some] <;> rfl) | (simp [*, errW_none, errW_some] <;> rfl), by repeat (first | (with_reducible first | exact HI0.out | apply IsS71.alloc | apply IsS71.drewN | apply IsS71.drew | apply IsS71.set_0 | apply IsS71.set_1 | apply IsS71.set_2) | exact HI0.out), by repeat (first | (with_reducible first | exact HB.out | apply below_alloc | apply pw_below_drewN | apply below_drew1 | refine below_set ?_ (IsS71.ge HI0.out)) | exact HB.out), by repeat (first | (with_reducible first | exact HK.out | apply KeepBut.set_ | apply keep_drewN | apply keep_drew | apply keep_alloc) | exact HK.out)⟩
    · rw [if_neg c4] at H
      have c4b0 : decide (a1 < 0) = false := decide_eq_false c4
      clear c4
      by_cases c6 : a1 > (wrap64 ((s0_0.size : Int) - s0_1))
      · rw [if_pos c6] at H
        have c6b0 : decide ((wrap64 ((s0_0.size : Int) - s0_1)) < a1) = true := decide_eq_true c6
        clear c6
        simp only [Option.some.injEq, Prod.mk.injEq] at H
        obtain ⟨rfl, rfl, rfl, rfl⟩ := H
        obtain ⟨HGz7, hgz7⟩ := HI0.out
        have hcz7_0 := cellS71_0 HGz7
        have hcz7_1 := cellS71_1 HGz7
        have hcz7_2 := cellS71_2 HGz7
        have hfz7_0 := blk_frozen HGz7 0
        have hfz7_1 := blk_frozen HGz7 1
        have hfz7_2 := blk_frozen HGz7 2
        clear HGz7 hgz7
        go_enter Tryd.func20, Tryd.ntmps20
        go_wp2
        repeat (go_quiet (fail); try go_wp2)
        go_ret
        exact ⟨by first | rfl | (simp [errW_none, errW_some] <;> rfl) | (simp [*, errW_none, errW_some] <;> rfl), by repeat (first | (with_reducible first | exact HI0.out | apply IsS71.alloc | apply IsS71.drewN | apply IsS71.drew | apply IsS71.set_0 | apply IsS71.set_1 | apply IsS71.set_2) | exact HI0.out), by repeat (first | (with_reducible first | exact HB.out | apply below_alloc | apply pw_below_drewN | apply below_drew1 | refine below_set ?_ (IsS71.ge HI0.out)) | exact HB.out), by repeat (first | (with_reducible first | exact HK.out | apply KeepBut.set_ | apply keep_drewN | apply keep_drew | apply keep_alloc) | exact HK.out)⟩
      · rw [if_neg c6] at H
        have c6b0 : decide ((wrap64 ((s0_0.size : Int) - s0_1)) < a1) = false := decide_eq_false c6
        clear c6
        by_cases c8 : 0 ≤ s0_1
        · rw [if_pos c8] at H
          have c8b0 := eq_true c8
          have c8b1 : decide (0 ≤ s0_1) = true := decide_eq_true c8
          clear c8
          by_cases c9 : s0_1 ≤ (wrap64 (s0_1 + a1))
          · rw [if_pos c9] at H
            have c9b0 := eq_true c9
            have c9b1 : decide (s0_1 ≤ (wrap64 (s0_1 + a1))) = true := decide_eq_true c9
            by_cases c10 : (wrap64 (s0_1 + a1)) ≤ (s0_0.size : Int)
            · rw [if_pos c10] at H
              have c10b0 := eq_true c10
              have c10b1 : decide ((wrap64 (s0_1 + a1)) ≤ (s0_0.size : Int)) = true := decide_eq_true c10
              simp only [Option.some.injEq, Prod.mk.injEq] at H
              obtain ⟨rfl, rfl, rfl, rfl⟩ := H
              obtain ⟨HGz11, hgz11⟩ := HI0.out
              have hcz11_0 := cellS71_0 HGz11
              have hcz11_1 := cellS71_1 HGz11
              have hcz11_2 := cellS71_2 HGz11
              have hfz11_0 := blk_frozen HGz11 0
              have hfz11_1 := blk_frozen HGz11 1
              have hfz11_2 := blk_frozen HGz11 2
              clear HGz11 hgz11
              go_enter Tryd.func20, Tryd.ntmps20
              go_wp2
              repeat (go_quiet (fail); try go_wp2)
              go_ret
              exact ⟨by first | rfl | (simp [errW_none, errW_some] <;> rfl) | (simp [*, errW_none, errW_some] <;> rfl), by repeat (first | (with_reducible first | exact HI0.out | apply IsS71.alloc | apply IsS71.drewN | apply IsS71.drew | apply IsS71.set_0 | apply IsS71.set_1 | apply IsS71.set_2) | exact HI0.out), by repeat (first | (with_reducible first | exact HB.out | apply below_alloc | apply pw_below_drewN | apply below_drew1 | refine below_set ?_ (IsS71.ge HI0.out)) | exact HB.out), by repeat (first | (with_reducible first | exact HK.out | apply KeepBut.set_ | apply keep_drewN | apply keep_drew | apply keep_alloc) | exact HK.out)⟩
            · rw [if_neg c10] at H
              exact absurd H (by simp)
          · rw [if_neg c9] at H
            exact absurd H (by simp)
        · rw [if_neg c8] at H
          exact absurd H (by simp)
  · rw [if_neg c3] at H
    have c3b0 : (s0_2 == 0) = false := beq_eq_false_iff_ne.mpr c3
    have c3b1 : (s0_2 != 0) = true := bne_iff_ne.mpr c3
    simp only [Option.some.injEq, Prod.mk.injEq] at H
    obtain ⟨rfl, rfl, rfl, rfl⟩ := H
    obtain ⟨HGz12, hgz12⟩ := HI0.out
    have hcz12_0 := cellS71_0 HGz12
    have hcz12_1 := cellS71_1 HGz12
    have hcz12_2 := cellS71_2 HGz12
    have hfz12_0 := blk_frozen HGz12 0
    have hfz12_1 := blk_frozen HGz12 1
    have hfz12_2 := blk_frozen HGz12 2
    clear HGz12 hgz12
    go_enter Tryd.func20, Tryd.ntmps20
    go_wp2
    repeat (go_quiet (fail); try go_wp2)
    go_ret
    exact ⟨by first | rfl | (simp [errW_none, errW_some] <;> rfl) | (simp [*, errW_none, errW_some] <;> rfl), by repeat (first | (with_reducible first | exact HI0.out | apply IsS71.alloc | apply IsS71.drewN | apply IsS71.drew | apply IsS71.set_0 | apply IsS71.set_1 | apply IsS71.set_2) | exact HI0.out), by repeat (first | (with_reducible first | exact HB.out | apply below_alloc | apply pw_below_drewN | apply below_drew1 | refine below_set ?_ (IsS71.ge HI0.out)) | exact HB.out), by repeat (first | (with_reducible first | exact HK.out | apply KeepBut.set_ | apply keep_drewN | apply keep_drew | apply keep_alloc) | exact HK.out)⟩

end Go.Proofs.YtloojhhjljneeaaDoor.P
